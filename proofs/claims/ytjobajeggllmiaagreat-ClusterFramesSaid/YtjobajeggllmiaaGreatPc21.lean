import Derived.Test.YtjobajeggllmiaaGreatPc0
import Derived.Lib.Mul64
import Derived.Test.YtjobajeggllmiaaGreatPc20
set_option linter.all false
set_option maxHeartbeats 100000000
set_option maxRecDepth 100000
namespace Go.Proofs.YtjobajeggllmiaaGreat
open _root_.Go.Proofs.Tryz
namespace BigW
open Go.RowKit Mem BigLaw
def stop(X:Int):Int×Bool:=if KN X then(X,false)else if 0<X then(9223372036854775807,true)else(-9223372036854775808,true)
def KR(p:Nat)(X:Int)(w:World)(U:Cm w p X)(T:X.natAbs<pw 100):
  Calls prog 155 #[.pointer (some ⟨p,0,none⟩)] w fun e w'=>e=.returned (.tuple #[.int .i64 (stop X).1,.bool (stop X).2])/\w'=w:=by
 have W:=zz U;have O:=zz T;clear U T
 go_in
 go_wp2_with fail;refine(Wm p X w W.o O.o).mono ?_;rintro e w' ⟨rfl,rfl⟩
 by_cases h:KN X=true
 .have Z:=zz (show stop X=(X,false)by unfold stop;rw[Ao h])
  rw[h];have N:=zz (of_decide_eq_true h);clear h;go_wp2_with fail;refine(M6 p X _ W.o N.o).mono ?_;rintro e w' ⟨rfl,rfl⟩;go_wp2_with fail
  go_ret2
  exact⟨by rw[Z.o];rfl,rfl⟩
 have Y:KN X=false:=by simpa using h
 have R:=of_decide_eq_false Y;rw[Y];go_wp2_with fail;refine(V8 p X _ W.o).mono ?_;rintro e w' ⟨rfl,rfl⟩
 by_cases V:0<X
 .have Z:=zz (show stop X=(9223372036854775807,true)by unfold stop;rw[Aj h,Ao V])
  rw[Int.sign_eq_one_of_pos V];clear h Y R;go_wp2_with fail
  go_ret2
  exact⟨by rw[Z.o];rfl,rfl⟩
 have Z:=zz (show stop X=(-9223372036854775808,true)by unfold stop;rw[Aj h,Aj V])
 rw[Int.sign_eq_neg_one_of_neg Aa];clear h Y R;go_wp2_with fail
 go_ret2
 exact⟨by rw[Z.o];rfl,rfl⟩
end BigW
namespace BigW
open Go.RowKit Mem BigLaw
def Gb{X s:Int}(Y: -9223372036854775808<=X)(Z:X<=9223372036854775807)(h:X=s):stop X=(s,false):=by
 subst h;unfold stop KN;rw[Ao (decide_eq_true ⟨Y,Z⟩)]
def Ph{X:Int}(h:9223372036854775807<X):stop X=(9223372036854775807,true):=by
 unfold stop KN;rw[Aj (by rw[decide_eq_true_eq];omega),Ao Aa]
def Pe{X:Int}(h:X< -9223372036854775808):stop X=(-9223372036854775808,true):=by
 unfold stop KN;rw[Aj (by rw[decide_eq_true_eq];omega),Aj Aa]
def three(a:Int):(a<0/\¬0<=a)\/(0<=a/\a<=0)\/(0<a/\¬a<=0):=Aa
def X0(a b:Int)(w:World)(T: -9223372036854775808<=a/\a<=9223372036854775807)(hb: -9223372036854775808<=b/\b<=9223372036854775807):
  Calls prog 127 #[.int .i64 a,.int .i64 b] w fun e w'=>e=.returned (.tuple #[.int .i64 (stop (a+b)).1,.bool (stop (a+b)).2])/\w'=w:=by
 have R:=zz T;have O:=zz hb;obtain⟨s,N⟩:=AJ (wrap64 (a+b))
 have M:=zz (show s=(a+b+9223372036854775808)%18446744073709551616-9223372036854775808 by rw[←N];unfold wrap64;omega)
 clear T hb
 rcases three a with⟨U,Y⟩|⟨U,Y⟩|⟨U,Y⟩<;>rcases three b with⟨V,Z⟩|⟨V,Z⟩|⟨V,Z⟩<;>rcases three s with⟨W,X⟩|⟨W,X⟩|⟨W,X⟩
 all_goals
  go_in
  go_wp2_with fail
  go_ret2
  refine⟨?_,rfl⟩;have:=R.o;have:=O.o;have:=M.o
  first
   |(rw[Gb (s:=s) Aa Aa Aa];rfl)
   |(rw[Gb (s:=a+b) Aa Aa Aa];rfl)
   |(rw[Gb (s:=a) Aa Aa Aa];rfl)
   |(rw[Gb (s:=b) Aa Aa Aa];rfl)
   |(rw[Gb (s:=0) Aa Aa Aa];rfl)
   |(rw[Ph Aa];rfl)
   |(rw[Pe Aa];rfl)
   |(exfalso;omega)
def XO(a b:Int)(w:World)(T: -9223372036854775808<=a/\a<=9223372036854775807)(hb: -9223372036854775808<=b/\b<=9223372036854775807):
  Calls prog 126 #[.int .i64 a,.int .i64 b] w fun e w'=>e=.returned (.tuple #[.int .i64 (stop (a-b)).1,.bool (stop (a-b)).2])/\w'=w:=by
 have R:=zz T;have O:=zz hb;obtain⟨s,N⟩:=AJ (wrap64 (a-b))
 have M:=zz (show s=(a-b+9223372036854775808)%18446744073709551616-9223372036854775808 by rw[←N];unfold wrap64;omega)
 clear T hb
 rcases three a with⟨U,Y⟩|⟨U,Y⟩|⟨U,Y⟩<;>rcases three b with⟨V,Z⟩|⟨V,Z⟩|⟨V,Z⟩<;>rcases three s with⟨W,X⟩|⟨W,X⟩|⟨W,X⟩
 all_goals
  go_in
  go_wp2_with fail
  go_ret2
  refine⟨?_,rfl⟩;have:=R.o;have:=O.o;have:=M.o
  first
   |(rw[Gb (s:=s) Aa Aa Aa];rfl)
   |(rw[Gb (s:=a-b) Aa Aa Aa];rfl)
   |(rw[Gb (s:=a) Aa Aa Aa];rfl)
   |(rw[Gb (s:= -b) Aa Aa Aa];rfl)
   |(rw[Gb (s:=0) Aa Aa Aa];rfl)
   |(rw[Ph Aa];rfl)
   |(rw[Pe Aa];rfl)
   |(exfalso;omega)
def Cn{X:Int}(h:X.natAbs<340282366920938463463374607431768211456):X.natAbs<pw 100:=by
 have Z:pw 4<=pw 100:=KH Aa;have Y:pw 4=340282366920938463463374607431768211456:=rfl;omega
def Yt(a b:Int)(w:World)(E: -9223372036854775808<=a/\a<=9223372036854775807)(hb: -9223372036854775808<=b/\b<=9223372036854775807):
  Calls prog 138 #[.int .i64 a,.int .i64 b] w fun e w'=>e=.returned (.tuple #[.int .i64 (stop (a+b)).1,.bool (stop (a+b)).2])/\Below w.heap.size w w':=by
 have G:=zz E;have J:=zz hb;have D:=zz (EN w);clear E hb
 go_in
 go_wp2_with fail;refine(EO a _ G.o).mono ?_;rintro e v ⟨B,rfl,A,X,O⟩;have H:=zz X;have W:=zz (D.o.below O D.o.lt);clear X;go_wp2_with fail;refine(EO b _ J.o).mono ?_;rintro e u ⟨C,rfl,z,Y,Z⟩;have F:=zz Y;have M:=zz (W.o.below Z W.o.lt);have V:=zz (H.o.below Z);clear Y;go_wp2_with fail;refine(Hu w.heap.size B C a b _ M.o V.o F.o (Cn (by have:=G.o;omega)) (Cn (by have:=J.o;omega))).mono ?_;rintro e x ⟨rfl,T,R⟩;have L:=zz T;have N:=zz (below_grown (Bh (Bh ((Below.refl w.heap.size w).alloc Nr (.cells aK 159)) Nr O) Nr Z) Nr R (fun g e=>by injection e with e;omega));clear T R;go_wp2_with fail;refine(KR w.heap.size (a+b) _ L.o (Cn (by have:=G.o;have:=J.o;omega))).mono ?_;rintro e y ⟨rfl,rfl⟩;generalize U:stop (a+b)=s;have I:=zz U;clear U;go_wp2_with fail
 go_ret2
 exact⟨by rw[I.o];rfl,N.o⟩
def YE(a b:Int)(w:World)(E: -9223372036854775808<=a/\a<=9223372036854775807)(hb: -9223372036854775808<=b/\b<=9223372036854775807):
  Calls prog 136 #[.int .i64 a,.int .i64 b] w fun e w'=>e=.returned (.tuple #[.int .i64 (stop (a-b)).1,.bool (stop (a-b)).2])/\Below w.heap.size w w':=by
 have G:=zz E;have J:=zz hb;have D:=zz (EN w);clear E hb
 go_in
 go_wp2_with fail;refine(EO a _ G.o).mono ?_;rintro e v ⟨B,rfl,A,X,O⟩;have H:=zz X;have W:=zz (D.o.below O D.o.lt);clear X;go_wp2_with fail;refine(EO b _ J.o).mono ?_;rintro e u ⟨C,rfl,z,Y,Z⟩;have F:=zz Y;have M:=zz (W.o.below Z W.o.lt);have V:=zz (H.o.below Z);clear Y;go_wp2_with fail;refine(Qx w.heap.size B C a b _ M.o V.o F.o (Cn (by have:=G.o;omega)) (Cn (by have:=J.o;omega))).mono ?_;rintro e x ⟨rfl,T,R⟩;have L:=zz T;have N:=zz (below_grown (Bh (Bh ((Below.refl w.heap.size w).alloc Nr (.cells aK 159)) Nr O) Nr Z) Nr R (fun g e=>by injection e with e;omega));clear T R;go_wp2_with fail;refine(KR w.heap.size (a+ -b) _ L.o (Cn (by have:=G.o;have:=J.o;omega))).mono ?_;rintro e y ⟨rfl,rfl⟩
 rw[show a+ -b=a-b by omega]
 generalize U:stop (a-b)=s;have I:=zz U;clear U;go_wp2_with fail
 go_ret2
 exact⟨by rw[I.o];rfl,N.o⟩
end BigW
namespace BigW
open Go.RowKit Mem BigLaw
def I7(a:Int)(w:World)(Y: -9223372036854775808<=a/\a<=9223372036854775807):
  Calls prog 146 #[.int .i64 a] w fun e w'=>e=.returned (.int .u64 (a.natAbs:Nat))/\w=w':=by
 have V:=zz Y;obtain⟨m,Z⟩:∃m:Nat,a.natAbs=m:=⟨_,rfl⟩;have X:=zz Z;rw[Z]
 by_cases h:a<0
 .have W:IntKind.u64.wrap (-IntKind.u64.wrap a)=(m:Int):=by rw[Cz,Cz];omega
  clear Z Y
  go_in
  go_wp2_with fail
  go_ret
  exact⟨rfl,rfl⟩
 obtain rfl:a=(m:Int):=Aa;clear Z X
 go_in
 go_wp2_with fail
 go_ret
 exact⟨rfl,rfl⟩
def maskN(a:Nat)(Z:a<18446744073709551616):bits .and .u64 (a:Int) 4294967295=((a%4294967296:Nat):Int):=by
 have h:=bits_and_u64_nat a 4294967295 Z Aa;have e:a&&& 4294967295=a%4294967296:=Nat.and_two_pow_sub_one_eq_mod a 32;rw[e]at h;exact h
def divN(a:Nat):(a:Int)/4294967296=((a/4294967296:Nat):Int):=Aa
def mulN(a b:Nat):(a:Int)*(b:Int)=((a*b:Nat):Int):=(Int.natCast_mul a b).symm
def addN(a b:Nat):(a:Int)+(b:Int)=((a+b:Nat):Int):=(Int.natCast_add a b).symm
def wrapN(a:Nat)(Z:a<18446744073709551616):IntKind.u64.wrap (a:Int)=(a:Int):=by rw[IntKind.wrap_u64];omega
def wrapM(a:Nat):IntKind.u64.wrap (a:Int)=((a%18446744073709551616:Nat):Int):=by rw[IntKind.wrap_u64];omega
end BigW
namespace BigW
open Go.RowKit Mem BigLaw
def nE(neg:Bool)(hi lo:Nat):Value:=.agg #[.bool neg,.int .u64 (hi:Int),.int .u64 (lo:Int)]
def SK(hi lo:Nat):Nat:=hi*18446744073709551616+lo
def aU(neg:Bool)(n:Nat):Int:=if neg then-(n:Int)else(n:Int)
def Bounded(w w':World)(X:Int)(e:Ending):Prop:=e=.returned (.tuple #[.int .i64 (stop X).1,.bool (stop X).2])/\Below w.heap.size w w'
def LQ(neg:Bool)(hi lo:Nat)(w:World)(L:hi<18446744073709551616)(J:lo<18446744073709551616):
  Calls prog 148 #[nE neg hi lo] w fun e w'=>Bounded w w' (aU neg (SK hi lo)) e:=by
 unfold nE
 have Y:Below w.heap.size w (w.alloc (.cells #[.bool neg,.int .u64 (hi:Int),.int .u64 (lo:Int)] 185)):=DC;have U:=zz Y;clear Y;obtain⟨X,O⟩:=AJ (aU neg (SK hi lo));rw[O]
 have V:=zz (show X=if neg then-((hi*18446744073709551616+lo:Nat):Int)else((hi*18446744073709551616+lo:Nat):Int)from O.symm)
 clear O
 cases neg with
 |true=>
  by_cases R:0<hi
  .have Z:=zz (show stop X=(-9223372036854775808,true)from Pe (by have:=V.o;rw[Ao rfl]at this;omega))
   have N:(0:Int)<(hi:Int):=Aa
   go_in
   go_wp2_with fail
   go_ret2
   exact⟨by rw[Z.o];rfl,U.o⟩
  .obtain rfl:hi=0:=Aa
   by_cases T:9223372036854775808<lo
   .have Z:=zz (show stop X=(-9223372036854775808,true)from Pe (by have:=V.o;rw[Ao rfl]at this;omega))
    have W:(9223372036854775808:Int)<(lo:Int):=Aa;clear R T
    go_in
    go_wp2_with fail
    go_ret2
    exact⟨by rw[Z.o];rfl,U.o⟩
   .have Z:=zz (show stop X=(-(lo:Int),false)from by have:=V.o;rw[Ao rfl]at this;exact Gb Aa Aa Aa)
    have W:¬(9223372036854775808:Int)<(lo:Int):=Aa
    have M:IntKind.i64.wrap (IntKind.u64.wrap (-(lo:Int)))= -(lo:Int):=by rw[Cz,IntKind.wrap_i64];omega
    clear R T
    go_in
    go_wp2_with fail
    go_ret2
    exact⟨by rw[Z.o];rfl,U.o⟩
 |false=>
  by_cases R:0<hi
  .have Z:=zz (show stop X=(9223372036854775807,true)from Ph (by have:=V.o;rw[Aj Bq]at this;omega))
   have N:(0:Int)<(hi:Int):=Aa
   go_in
   go_wp2_with fail
   go_ret2
   exact⟨by rw[Z.o];rfl,U.o⟩
  obtain rfl:hi=0:=Aa
  by_cases T:9223372036854775807<lo
  .have Z:=zz (show stop X=(9223372036854775807,true)from Ph (by have:=V.o;rw[Aj Bq]at this;omega))
   have W:(9223372036854775807:Int)<(lo:Int):=Aa;clear R T
   go_in
   go_wp2_with fail
   go_ret2
   exact⟨by rw[Z.o];rfl,U.o⟩
  have Z:=zz (show stop X=((lo:Int),false)from by have:=V.o;rw[Aj Bq]at this;exact Gb Aa Aa Aa)
  have W:¬(9223372036854775807:Int)<(lo:Int):=Aa;clear R T
  go_in
  go_wp2_with fail
  go_ret2
  exact⟨by rw[Z.o];rfl,U.o⟩
def Te(x y:Nat)(U:x<18446744073709551616)(hy:y<18446744073709551616)(w:World):
  Calls prog 145 #[.int .u64 x,.int .u64 y] w fun e w'=>e=.returned (.tuple #[.int .u64 ((x*y/18446744073709551616:Nat):Int),.int .u64 ((x*y%18446744073709551616:Nat):Int)])/\w=w':=by
 obtain⟨N,T,O,Z⟩:=Lib.mul64_hi x y U hy;have J:=Lib.half_mul_le (a:=x/4294967296) (b:=y/4294967296) Aa Aa;have L:=Lib.half_mul_le (a:=x/4294967296) (b:=y%4294967296) Aa Aa;have M:=Lib.half_mul_le (a:=x%4294967296) (b:=y/4294967296) Aa Aa;have X:x/4294967296*(y/4294967296)<18446744073709551616:=Aa;have W:x/4294967296*(y%4294967296)<18446744073709551616:=Aa;have V:x%4294967296*(y/4294967296)<18446744073709551616:=Aa;have Y:x/4294967296*(y/4294967296)+(x/4294967296*(y%4294967296)+x%4294967296*(y%4294967296)/4294967296)/4294967296<18446744073709551616:=Aa;have R:x/4294967296*(y/4294967296)+(x/4294967296*(y%4294967296)+x%4294967296*(y%4294967296)/4294967296)/4294967296+((x/4294967296*(y%4294967296)+x%4294967296*(y%4294967296)/4294967296)%4294967296+x%4294967296*(y/4294967296))/4294967296<18446744073709551616:=Aa
 go_in
 go_wp2
 simp only[maskN x U,maskN y hy,divN,mulN,addN,wrapN _ N,wrapN _ W,wrapN _ T,maskN _ T,wrapN _ V,wrapN _ O,wrapN _ X,wrapN _ Y,wrapN _ R,wrapM (x*y)];rw[Z]
 go_ret2
 exact⟨rfl,rfl⟩
def ak(x y:Nat)(w:World):
  (callFunc 147 #[.int .u64 x,.int .u64 y,.int .u64 0]).run prog w=
   .ok (.value (.tuple #[.int .u64 (((x+y)%18446744073709551616:Nat):Int),.int .u64 (((x+y)/18446744073709551616:Nat):Int)])) w:=by
 rw[run_callFunc_extern func147 Ap Ap Ap (e:=add64Entry) Ap,run_add64 x y 0 Aa Aa Aa Aa];simp only[Result.andThen]
 congr 5<;>omega
def PL(x n:Nat)(y:Int)(hy:y=(n:Int))(w:World):
  (callFunc 147 #[.int .u64 x,.int .u64 y,.int .u64 0]).run prog w=
   .ok (.value (.tuple #[.int .u64 (((x+n)%18446744073709551616:Nat):Int),.int .u64 (((x+n)/18446744073709551616:Nat):Int)])) w:=by
 subst hy;exact ak x n w
end BigW
namespace BigLaw
def JI(f g:Nat->Nat)(x:Nat):Nat->Nat
 |0=>0
 |j+1=>(JI f g x j+(x*g j+f j))/4294967296
def Ua(f g:Nat->Nat)(x j:Nat):Nat:=(JI f g x j+(x*g j+f j))%4294967296
def mJ(f g:Nat->Nat)(x j:Nat):Ua f g x j<4294967296:=Nat.mod_lt _ Aa
def UQ{c x y f:Nat}(X:c<4294967296)(Z:x<4294967296)(hy:y<4294967296)(Y:f<4294967296):c+(x*y+f)<18446744073709551616:=by
 have:=Ez (x:=x) (y:=y) Aa Aa;omega
def Ud{f g:Nat->Nat}{x:Nat}(Z:x<4294967296)(Y:∀i,g i<4294967296)(X:∀i,f i<4294967296):∀j,JI f g x j<4294967296
 |0=>by simp[JI]
 |j+1=>by
  have W:=Ud Z Y X j;have:=UQ W Z (Y j) (X j)
  unfold JI
  omega
def Zx(f g:Nat->Nat)(x:Nat):∀k,AB (Ua f g x) k+JI f g x k*pw k=x*AB g k+AB f k
 |0=>by simp[AB,JI]
 |k+1=>by
  have Y:=Zx f g x k
  unfold AB
  have Z:JI f g x (k+1)*pw (k+1)+Ua f g x k*pw k=(JI f g x k+(x*g k+f k))*pw k:=by
   show(JI f g x k+(x*g k+f k))/4294967296*pw (k+1)+(JI f g x k+(x*g k+f k))%4294967296*pw k=_
   rw[Fu,←Nat.mul_assoc,←Nat.add_mul]
   congr 1
   omega
  rw[Nat.add_mul,Nat.add_mul]at Z;rw[Nat.mul_add,←Nat.mul_assoc];omega
def KM(f g:Nat->Nat)(x k n p:Nat):Nat:=if p<k then f p else if p<k+n then Ua (fun i=>f (k+i)) g x (p-k)else if p=k+n then JI (fun i=>f (k+i)) g x n else f p
def kK{f g:Nat->Nat}{x k n:Nat}(Y:x<4294967296)(X:∀i,g i<4294967296)(Z:∀i,f i<4294967296)(p:Nat):KM f g x k n p<4294967296:=by
 unfold KM
 have V:=Z p;have W:=mJ (fun i=>f (k+i)) g x (p-k);have U:=Ud (f:=fun i=>f (k+i)) Y X (fun i=>Z _) n
 (repeat' split)<;>assumption
def fM(f g:Nat->Nat)(x k n:Nat):AB (KM f g x k n) (k+1+n)=AB f (k+n)+x*AB g n*pw k:=by
 rw[show k+1+n=k+(n+1)by omega,FL,FL f,EI]
 have X:AB (KM f g x k n) k=AB f k:=CY fun i hi=>by unfold KM;rw[Ao hi]
 have Z:AB (fun i=>KM f g x k n (k+i)) n=AB (Ua (fun i=>f (k+i)) g x) n:=CY fun i hi=>by
  show KM f g x k n (k+i)=_
  unfold KM;rw[Aj Aa,Ao Aa,show k+i-k=i by omega]
 have Y:KM f g x k n (k+n)=JI (fun i=>f (k+i)) g x n:=by
  unfold KM;rw[Aj Aa,Aj Aa,Ao rfl]
 rw[X,Z,Y,Zx,Nat.add_mul];omega
def ic{f g:Nat->Nat}{x k n:Nat}(h:∀p,k+n<=p->f p=0)(p:Nat)(Z:k+1+n<=p):KM f g x k n p=0:=by
 unfold KM
 rw[Aj Aa,Aj Aa,Aj Aa];exact h p Aa
end BigLaw
namespace BigW
open Go.RowKit Mem BigLaw
def Sb(f g:Nat->Nat)(x k j p:Nat):Nat:=if p<k then f p else if p<k+j then Ua (fun i=>f (k+i)) g x (p-k)else f p
def ai(f g:Nat->Nat)(x k n:Nat):BH .u32 n (fun p=>(f p:Int))=BH .u32 n (fun p=>(Sb f g x k 0 p:Int)):=
 EA fun i hi=>by unfold Sb;split;rfl;rw[Aj Aa]
def aB(f g:Nat->Nat)(x k j n:Nat):(BH .u32 n fun p=>(Sb f g x k j p:Int)).setIfInBounds (k+j) (.int .u32 (Ua (fun i=>f (k+i)) g x j:Nat))=BH .u32 n fun p=>(Sb f g x k (j+1) p:Int):=by
 refine Es fun i hi=>?_
 unfold Sb
 by_cases e:i=k+j
 .subst e
  rw[Ao rfl,Aj Aa,Ao Aa,show k+j-k=j by omega]
 rw[Aj e]
 by_cases Z:i<k
 . rw[Ao Z,Ao Z]
 rw[Aj Z,Aj Z]
 by_cases Y:i<k+j
 . rw[Ao Y,Ao Aa]
 rw[Aj Y,Aj Aa]
def jh(f g:Nat->Nat)(x k m n:Nat):(BH .u32 n fun p=>(Sb f g x k m p:Int)).setIfInBounds (k+m) (.int .u32 (JI (fun i=>f (k+i)) g x m:Nat))=BH .u32 n fun p=>(KM f g x k m p:Int):=by
 refine Es fun i hi=>?_
 unfold Sb KM
 by_cases e:i=k+m
 .subst e;rw[Ao rfl,Aj Aa,Aj Aa,Ao rfl]
 rw[Aj e,Aj e]
def lW(c x y z:Nat):((c:Int)+((x:Int)*(y:Int)+(z:Int)))/4294967296=(((c+(x*y+z))/4294967296:Nat):Int):=by
 have:((x*y:Nat):Int)=(x:Int)*(y:Int):=Int.natCast_mul _ _;omega
def mD(c x y z:Nat):((c:Int)+((x:Int)*(y:Int)+(z:Int)))%4294967296=(((c+(x*y+z))%4294967296:Nat):Int):=by
 have:((x*y:Nat):Int)=(x:Int)*(y:Int):=Int.natCast_mul _ _;omega
def Zg(f g:Nat->Nat)(x k j:Nat):Sb f g x k j (k+j)=f (k+j):=by
 unfold Sb;rw[Aj Aa,Aj Aa]
def mh(A A':Option Addr)(c c':Nat)(l Z:List Nat)(B:Nat)(w:World)(hB:B<=w.heap.size)(h:Wd w B A c l)(h':Wd w B A' c' Z)(ru:l.length<=1000000)(qQ:Z.length<=1000000):
  Calls prog 176 #[.slice A l.length c,.slice A' Z.length c'] w fun e w'=>Q0 w w' (val l*val Z) e:=by
 have H:=zz h;have E:=zz h';clear h h'
 by_cases T:l.length=0
 .have W:((l.length:Int)==0)=true:=by simp[T]
  have r:=zz (show val l=0 by rw[List.eq_nil_of_length_eq_zero T];rfl)
  clear T
  go_in
  go_wp2_with fail
  go_ret
  exact⟨none,0,[],rfl,Wd.nil _ _,fun h=>by simp at h,by rw[r.o,Nat.zero_mul];rfl,Below.refl _ _⟩
 have qZ:((l.length:Int)==0)=false:=by rw[beq_eq_false_iff_ne];omega
 by_cases W:Z.length=0
 .have v:((Z.length:Int)==0)=true:=by simp[W]
  have r:=zz (show val Z=0 by rw[List.eq_nil_of_length_eq_zero W];rfl)
  clear T W
  go_in
  go_wp2_with fail
  go_ret
  exact⟨none,0,[],rfl,Wd.nil _ _,fun h=>by simp at h,by rw[r.o,Nat.mul_zero];rfl,Below.refl _ _⟩
 have v:((Z.length:Int)==0)=false:=by rw[beq_eq_false_iff_ne];omega
 clear T W
 go_in
 go_wp2_with(refine wpList_make_row rfl _ _ _ rfl Ig (l.length+Z.length) rfl rfl BG BG Aa Aa ?_)
 go_loopw[6] (fun i wr=>∃(k:Nat) (f:Nat->Nat),k<=l.length/\i=.int .i64 k/\Hid ((∀p,f p<4294967296)/\(∀p,k+Z.length<=p->f p=0)/\AB f (k+Z.length)=AB (fun i=>l.getD i 0) k*val Z)/\Ae wr w.heap.size 172 (BH .u32 (l.length+Z.length) fun j=>(f j:Int))/\Below w.heap.size w wr) (fun i _=>l.length-(intOf i).toNat)
 .exact⟨0,fun _=>0,Aa,rfl,zz ⟨fun _=>Nat.zero_lt_succ _,fun _ _=>rfl,by rw[Ja (a:=0) (Nat.zero_le _) (fun _ _ _=>rfl)];simp[AB]⟩,Ae.new rfl,DC⟩
 obtain⟨k,f,hk,rfl,U,Y,hb⟩:=hrel
 by_cases M:k<l.length
 .obtain⟨b,o,rfl,qY,N⟩:=(H.o.keep (w':=wr) (fun b o O=>BF hb b o Aa)).at_ M;have D:=getD_lt H.o.small k
  have HX:=zz (show AB (fun i=>l.getD i 0) (k+1)=AB (fun i=>l.getD i 0) k+l.getD k 0*pw k from rfl)
  have J:=zz (show ∀V,Below w.heap.size w V-> V.cell? ⟨b,o+k,none⟩=some (.int .u32 (l.getD k 0:Int))from fun V O=>by
   obtain⟨b',o',e,_,h⟩:=(H.o.keep (w':=V) (fun b o qV=>BF O b o Aa)).at_ M
   injection e with e;injection e with e1 e2;subst e1 e2;exact h)
  generalize l.getD k 0=x at N D HX J;have qW:(k:Int)<(l.length:Int):=Aa;clear N;go_wp2_with fail
  go_loopw[7,8] (fun c j wr=>∃F:Nat,F<=Z.length/\j=.int .i64 F/\c=.int .u64 (JI (fun i=>f (k+i)) (fun i=>Z.getD i 0) x F:Nat)/\Ae wr w.heap.size 172 (BH .u32 (l.length+Z.length) fun p=>(Sb f (fun i=>Z.getD i 0) x k F p:Int))/\Below w.heap.size w wr) (fun _ j _=>Z.length-(intOf j).toNat)
  .exact⟨0,Aa,rfl,rfl,by rw[←ai];exact Y,hb⟩
  clear Y hb;obtain⟨j,hj,rfl,rfl,Y,hb⟩:=hrel;have R:=Ud (f:=fun i=>f (k+i)) D (fun i=>getD_lt E.o.small i) (fun i=>U.o.1 _) j
  by_cases L:j<Z.length
  .obtain⟨b',o',rfl,qR,d⟩:=(E.o.keep (w':=wr) (fun b o O=>BF hb b o Aa)).at_ L;have N:=J.o wr hb;have hy:=getD_lt E.o.small j;have T:=U.o.1 (k+j);have G:=Y.cell (k+j);rw[Cu _ _ _ _ Aa,Zg]at G;have t1:=Y.thaw (k+j);have X:=UQ R D hy T
   have I:=zz (show JI (fun i=>f (k+i)) (fun i=>Z.getD i 0) x (j+1)=(JI (fun i=>f (k+i)) (fun i=>Z.getD i 0) x j+(x*Z.getD j 0+f (k+j)))/4294967296 from rfl)
   have C:=zz (show Ua (fun i=>f (k+i)) (fun i=>Z.getD i 0) x j=(JI (fun i=>f (k+i)) (fun i=>Z.getD i 0) x j+(x*Z.getD j 0+f (k+j)))%4294967296 from rfl)
   generalize JI (fun i=>f (k+i)) (fun i=>Z.getD i 0) x j=g at R X I C;generalize Z.getD j 0=y at d hy X I C;generalize f (k+j)=z at T G X I C;have qU:(j:Int)<(Z.length:Int):=Aa;have qX:0<=(x:Int)*(y:Int):=Int.mul_nonneg Aa Aa
   have rq:(g:Int)+((x:Int)*(y:Int)+(z:Int))<18446744073709551616:=by have:=X;rw[←Int.natCast_mul];omega
   clear X;have u:IntKind.i64.wrap ((k:Int)+(j:Int))=(k:Int)+(j:Int):=IntWalk.i64_in _ Aa;have m:(0:Int)<=(k:Int)+(j:Int):=Aa;have s:(k:Int)+(j:Int)<(l.length:Int)+(Z.length:Int):=Aa;have t:((k:Int)+(j:Int)).toNat=k+j:=Aa;go_wp2_with fail
   go_quiet (fail)
   go_wp2_with fail
   have e:((g:Int)+((x:Int)*(y:Int)+(z:Int)))%4294967296=((Ua (fun i=>f (k+i)) (fun i=>Z.getD i 0) x j:Nat):Int):=by rw[C.o];exact mD _ _ _ _
   refine⟨⟨j+1,Aa,BG,by rw[I.o,←lW],?_,(below_drewN hb nq).setCell Nr _⟩,Ck⟩;rw[e,←aB];exact(Y.drewN nq).set _ _
  obtain rfl:j=Z.length:=Aa;have G:=Y.cell (k+Z.length);rw[Cu _ _ _ _ Aa,Zg,U.o.2.1 _ Nr]at G;have t1:=Y.thaw (k+Z.length);have HE:=zz (jh f (fun i=>Z.getD i 0) x k Z.length (l.length+Z.length))
  have HF:=zz (show(∀p,KM f (fun i=>Z.getD i 0) x k Z.length p<4294967296)/\(∀p,k+1+Z.length<=p->KM f (fun i=>Z.getD i 0) x k Z.length p=0)/\AB (KM f (fun i=>Z.getD i 0) x k Z.length) (k+1+Z.length)=AB (fun i=>l.getD i 0) (k+1)*val Z from
   ⟨kK D (fun i=>getD_lt E.o.small i) U.o.1,ic U.o.2.1,by rw[fM,U.o.2.2,HX.o,FY Nr,Nat.add_mul,Nat.mul_right_comm x]⟩)
  generalize JI (fun i=>f (k+i)) (fun i=>Z.getD i 0) x Z.length=g at R HE;have u:IntKind.i64.wrap ((k:Int)+(Z.length:Int))=(k:Int)+(Z.length:Int):=IntWalk.i64_in _ Aa;have m:(0:Int)<=(k:Int)+(Z.length:Int):=Aa;have s:(k:Int)+(Z.length:Int)<(l.length:Int)+(Z.length:Int):=Aa;have t:((k:Int)+(Z.length:Int)).toNat=k+Z.length:=Aa;clear L;go_wp2_with fail;refine⟨⟨k+1,KM f (fun i=>Z.getD i 0) x k Z.length,Aa,BG,HF,?_,hb.setCell Nr _⟩,Ck⟩;rw[←HE.o];exact Y.set _ _
 obtain rfl:k=l.length:=Aa;have hg:=Y.lt;have HW:=zz (ES Y Aa (fun i _=>U.o.1 i))
 have HV:=zz (show val ((List.range (l.length+Z.length)).map f)=val l*val Z by rw[GK,U.o.2.2];rfl)
 have q:=FK _ _ _ _ _ HW.o;rw[List.length_map,List.length_range]at q;have HT:=zz q;clear M q;go_wp2_with fail;refine HT.o.mono ?_;rintro e w' ⟨ht,rfl⟩;obtain⟨A,c,l1,rfl,h2⟩:=Dc (n:=val l*val Z) HW.o Aa hb HV.o ht;have H2:=zz h2;clear h2 ht;go_wp2_with fail
 go_ret
 exact⟨A,c,l1,rfl,H2.o⟩
def oo{X Y:Int}:Sg (decide (X<0)!=decide (Y<0)) (X*Y):=by
 refine Sz ?_
 rcases Int.lt_trichotomy X 0 with h|h|h<;>rcases Int.lt_trichotomy Y 0 with Z|Z|Z
 . right;right;exact⟨by simp[h,Z],Int.mul_pos_of_neg_of_neg h Z⟩
 . left;rw[Z,Int.mul_zero]
 . right;left;exact⟨by simp[h];omega,Int.mul_neg_of_neg_of_pos h Z⟩
 . left;rw[h,Int.zero_mul]
 . left;rw[h,Int.zero_mul]
 . left;rw[h,Int.zero_mul]
 . right;left;exact⟨by simp[Z];omega,Int.mul_neg_of_pos_of_neg h Z⟩
 . left;rw[Z,Int.mul_zero]
 have V:¬X<0:=Aa;have W:¬Y<0:=Aa
 right;right;exact⟨by simp[V,W],Int.mul_pos h Z⟩
def Xa(p F E:Nat)(X Y:Int)(w:World)(m:Dz w p)(O:Cm w F X)(hy:Cm w E Y)(y:X.natAbs<pw 100)(z:Y.natAbs<pw 100):
  Calls prog 156 #[.pointer (some ⟨p,0,none⟩),.pointer (some ⟨F,0,none⟩),.pointer (some ⟨E,0,none⟩)] w fun e w'=>e=.returned (.pointer (some ⟨p,0,none⟩))/\Cm w' p (X*Y)/\w.grownBy w' (some p):=by
 obtain⟨A,c,l,v,x1,x,n,H⟩:=O.parts;obtain⟨A',c',q,s,y1,t,u,N⟩:=hy.parts;have HL:=zz (Jw n H y);have G:=zz (Jw u N z);have I:=zz x;have C:=zz t
 have M:=zz (show val l*val q=(X*Y).natAbs by rw[Int.natAbs_mul,H,N])
 have V:=zz (oo (X:=X) (Y:=Y));have r:=zz m;have J:=zz O.lt;have B:=zz hy.lt;clear x n H t u N m O hy y z;generalize X*Y=Z at M V ⊢;generalize decide (X<0)=xn at v V;generalize decide (Y<0)=yn at s V
 go_in
 go_wp2_with fail
 go_region_law (first
  |(go_simp;go_at_call 176;refine(mh A A' c c' l q _ _ Nr I.o.drew C.o.drew HL.o G.o).mono ?_;rintro e w1 ⟨A1,f,k,rfl,D,R,T,W⟩;have d:=(BF W F 0 J.o).trans v;have i:=(BF W E 0 B.o).trans s)
  |(go_simp;go_at_call 110;refine(FZ p _ A1 k f _ Z (r.o.drew.below W r.o.lt) D R (T.trans M.o) (Ij R (T.trans M.o) _ V.o)).mono ?_;rintro e w2 ⟨rfl,U,L⟩))
 all_goals
  have b:=zz U;clear U;go_wp2_with fail
  go_ret
  exact⟨rfl,b.o,(show w.grownBy w1 (some p)from⟨W.os,W.tape,W.output,W.size,fun g j _=>W.block g j⟩).trans L⟩
end BigW
namespace BigW
open Go.RowKit Mem BigLaw
def SQ(k W s:Nat)(w:World)(U:k=32*W+s)(R:s<32)(Y:W<=1000000):
  Calls prog 157 #[.int .u64 (k:Int)] w fun e w'=>Uv w w' (2 ^ k) e:=by
 have T:=zz (EN w);have M:=zz U;have N:=zz R;have J:=zz Y;clear U R Y
 go_in
 go_wp2_with fail;refine(MQ 1 _ Aa).mono ?_;rintro e I ⟨p,rfl,H,O,hb⟩;have L:=zz O;clear O;go_wp2_with fail;refine(Kz w.heap.size p 1 k W s _ (T.o.below hb T.o.lt) L.o (JY Aa) M.o N.o J.o).mono ?_;rintro e G ⟨rfl,Z,X⟩;rw[Int.one_mul]at Z;have V:=zz Z;clear Z;go_wp2_with fail
 go_ret
 exact⟨w.heap.size,rfl,Nat.le_refl _,V.o,below_grown (Bh (DC) Nr hb) Nr X (fun g e=>by injection e with e;omega)⟩
end BigW
namespace BigW
open Go.RowKit Mem BigLaw
def Io(a b:Int):Int×Bool:=stop ((a*b+2147483648)/4294967296)
def jo{a b:Int}(Z: -9223372036854775808<=a/\a<=9223372036854775807)(hb: -9223372036854775808<=b/\b<=9223372036854775807):a.natAbs*b.natAbs<=85070591730234615865843651857942052864:=
 Nat.mul_le_mul (show a.natAbs<=9223372036854775808 by omega) (show b.natAbs<=9223372036854775808 by omega)
def fE{a b:Int}(h:(a<0/\0<=b)\/(0<=a/\b<0)):a*b= -((a.natAbs*b.natAbs:Nat):Int):=by
 rw[Int.natCast_mul]
 rcases h with⟨Y,Z⟩|⟨Y,Z⟩
 . rw[show(a.natAbs:Int)= -a by omega,show(b.natAbs:Int)=b by omega,Int.neg_mul,Int.neg_neg]
 rw[show(a.natAbs:Int)=a by omega,show(b.natAbs:Int)= -b by omega,Int.mul_neg,Int.neg_neg]
def iy{a b:Int}(h:(a<0/\b<0)\/(0<=a/\0<=b)):a*b=((a.natAbs*b.natAbs:Nat):Int):=by
 rw[Int.natCast_mul]
 rcases h with⟨Y,Z⟩|⟨Y,Z⟩
 . rw[show(a.natAbs:Int)= -a by omega,show(b.natAbs:Int)= -b by omega,Int.neg_mul_neg]
 rw[show(a.natAbs:Int)=a by omega,show(b.natAbs:Int)=b by omega]
def SL(x y:Nat)(Z:x<18446744073709551616)(hy:y<4294967296):bits .or .u64 ((x:Int)/4294967296) ((y:Int)*4294967296)=((y*4294967296+x/4294967296:Nat):Int):=by
 have h:=gV (x/4294967296) y Aa hy;have e:((x/4294967296:Nat):Int)=(x:Int)/4294967296:=Aa;rw[e]at h;rw[h];omega
def U7(P h:Nat)(Z:P<=85070591730234615865843651857942052864)(Y:h<=2147483648):
  SK ((P/18446744073709551616+(P%18446744073709551616+h)/18446744073709551616)/4294967296)
   ((P/18446744073709551616+(P%18446744073709551616+h)/18446744073709551616)%4294967296*4294967296+(P%18446744073709551616+h)%18446744073709551616/4294967296)=(P+h)/4294967296:=by
 unfold SK
 omega
def XP(a b:Int)(w:World)(v: -9223372036854775808<=a/\a<=9223372036854775807)(hb: -9223372036854775808<=b/\b<=9223372036854775807):
  Calls prog 128 #[.int .i64 a,.int .i64 b] w fun e w'=>e=.returned (.tuple #[.int .i64 (Io a b).1,.bool (Io a b).2])/\Below w.heap.size w w':=by
 have k:=zz v;have l:=zz hb;have H:=jo v hb
 have A:=zz (show a.natAbs<18446744073709551616 by omega)
 have z:=zz (show b.natAbs<18446744073709551616 by omega)
 have W:=zz H;clear v hb
 rcases(by omega:((a<0/\b<0)\/(¬a<0/\¬b<0))\/((a<0/\¬b<0)\/(¬a<0/\b<0)))with h|h
 .have O:=zz (show aU false ((a.natAbs*b.natAbs+2147483648)/4294967296)=(a*b+2147483648)/4294967296 by
   rw[iy Aa];show(((a.natAbs*b.natAbs+2147483648)/4294967296:Nat):Int)=_;omega)
  have Z:=zz (U7 (a.natAbs*b.natAbs) 2147483648 W.o Aa);clear H
  rcases h with⟨p,q⟩|⟨p,q⟩
  all_goals
   go_in
   go_wp2_with fail;refine(I7 a _ k.o).mono ?_;rintro e E ⟨rfl,rfl⟩;go_wp2_with fail;refine(I7 b _ l.o).mono ?_;rintro e E ⟨rfl,rfl⟩;go_wp2_with fail;refine(Te a.natAbs b.natAbs A.o z.o _).mono ?_;rintro e E ⟨rfl,rfl⟩;generalize a.natAbs*b.natAbs=P at W O Z ⊢
   have F:P/18446744073709551616<=4611686018427387904:=by have:=W.o;omega
   have I:P%18446744073709551616<18446744073709551616:=Aa;generalize P/18446744073709551616=Y at F Z ⊢;generalize P%18446744073709551616=V at I Z ⊢;have X:=fun w=>PL V 2147483648 2147483648 Aa w;have u:(V+2147483648)/18446744073709551616<=1:=Aa;have U:(V+2147483648)%18446744073709551616<18446744073709551616:=Aa;generalize(V+2147483648)/18446744073709551616=C at u Z X;generalize(V+2147483648)%18446744073709551616=L at U Z X;have y:(Y+C)%4294967296<4294967296:=Aa
   have t:IntKind.u64.wrap (((Y:Int)+(C:Int))*4294967296)=(((Y+C)%4294967296:Nat):Int)*4294967296:=by rw[Cz];omega
   have hor:=SL L _ U y;generalize(Y+C)%4294967296=M at y t hor Z;have R:M*4294967296+L/4294967296<18446744073709551616:=Aa;have T:(Y+C)/4294967296<18446744073709551616:=Aa;generalize hq:M*4294967296+L/4294967296=s at R hor Z;have J:((Y:Int)+(C:Int))/4294967296=(((Y+C)/4294967296:Nat):Int):=Aa;generalize(Y+C)/4294967296=x at T J Z;clear hq;rw[←Z.o]at O;go_wp2_with fail;refine(LQ _ x s _ T R).mono ?_;rintro e E ⟨rfl,hb⟩;rw[O.o]
   have n:=zz (show stop ((a*b+2147483648)/4294967296)=Io a b from rfl)
   rw[n.o];have G:=zz (Bh ((Below.refl w.heap.size w).alloc Nr _) Nr hb);generalize B:Io a b=r;have m:=zz B;clear O Z hb B;go_wp2_with fail
   go_ret2
   exact⟨by rw[m.o];rfl,G.o⟩
 have O:=zz (show aU true ((a.natAbs*b.natAbs+2147483647)/4294967296)=(a*b+2147483648)/4294967296 by
  rw[fE Aa];unfold aU;rw[Ao rfl];omega)
 have Z:=zz (U7 (a.natAbs*b.natAbs) 2147483647 W.o Aa);clear H
 rcases h with⟨p,q⟩|⟨p,q⟩
 all_goals
  go_in
  go_wp2_with fail;refine(I7 a _ k.o).mono ?_;rintro e E ⟨rfl,rfl⟩;go_wp2_with fail;refine(I7 b _ l.o).mono ?_;rintro e E ⟨rfl,rfl⟩;go_wp2_with fail;refine(Te a.natAbs b.natAbs A.o z.o _).mono ?_;rintro e E ⟨rfl,rfl⟩;generalize a.natAbs*b.natAbs=P at W O Z ⊢
  have F:P/18446744073709551616<=4611686018427387904:=by have:=W.o;omega
  have I:P%18446744073709551616<18446744073709551616:=Aa;generalize P/18446744073709551616=Y at F Z ⊢;generalize P%18446744073709551616=V at I Z ⊢
  go_upto_region 3 with fail
  go_cut[7] (fun i j=>∃D:Nat,i=.int .u64 (D:Int)/\Hid (D=2147483648)/\j=w.alloc (.cells #[.bool true,.int .u64 (Y:Int),.int .u64 (V:Int)] 185))
  case first=>
   go_wp2_with fail
   go_meet
   exact⟨2147483648,rfl,zz rfl,rfl⟩
  obtain⟨D,rfl,N,rfl⟩:=hcut
  have g:(1:Int)<=(D:Int):=by have:=N.o;omega
  have f:(D:Int)<=4294967296:=by have:=N.o;omega
  have X:=fun w=>PL V 2147483647 ((D:Int)-1) (by have:=N.o;omega) w;have u:(V+2147483647)/18446744073709551616<=1:=Aa;have U:(V+2147483647)%18446744073709551616<18446744073709551616:=Aa;generalize(V+2147483647)/18446744073709551616=C at u Z X;generalize(V+2147483647)%18446744073709551616=L at U Z X;have y:(Y+C)%4294967296<4294967296:=Aa
  have t:IntKind.u64.wrap (((Y:Int)+(C:Int))*4294967296)=(((Y+C)%4294967296:Nat):Int)*4294967296:=by rw[Cz];omega
  have hor:=SL L _ U y;generalize(Y+C)%4294967296=M at y t hor Z;have R:M*4294967296+L/4294967296<18446744073709551616:=Aa;have T:(Y+C)/4294967296<18446744073709551616:=Aa;generalize hq:M*4294967296+L/4294967296=s at R hor Z;have J:((Y:Int)+(C:Int))/4294967296=(((Y+C)/4294967296:Nat):Int):=Aa;generalize(Y+C)/4294967296=x at T J Z;clear hq;rw[←Z.o]at O;go_wp2_with fail;refine(LQ _ x s _ T R).mono ?_;rintro e E ⟨rfl,hb⟩;rw[O.o]
  have n:=zz (show stop ((a*b+2147483648)/4294967296)=Io a b from rfl)
  rw[n.o];have G:=zz (Bh ((Below.refl w.heap.size w).alloc Nr _) Nr hb);generalize B:Io a b=r;have m:=zz B;clear O Z hb B;go_wp2_with fail
  go_ret2
  exact⟨by rw[m.o];rfl,G.o⟩
def Ya(a b:Int)(w:World)(y: -9223372036854775808<=a/\a<=9223372036854775807)(hb: -9223372036854775808<=b/\b<=9223372036854775807):
  Calls prog 139 #[.int .i64 a,.int .i64 b] w fun e w'=>e=.returned (.tuple #[.int .i64 (Io a b).1,.bool (Io a b).2])/\Below w.heap.size w w':=by
 have c:=zz y;have f:=zz hb;have i:=zz (EN w)
 have Z:=zz (show(a*b).natAbs<=85070591730234615865843651857942052864 by rw[Int.natAbs_mul];exact jo y hb)
 clear y hb
 go_in
 go_wp2_with fail;refine(EO a _ c.o).mono ?_;rintro e w1 ⟨p1,rfl,qQ,U,B⟩;have p:=zz U;have N:=zz (i.o.below B i.o.lt);clear U;go_wp2_with fail;refine(EO b _ f.o).mono ?_;rintro e w2 ⟨p2,rfl,qW,V,W⟩;have k:=zz V;have x:=zz (N.o.below W N.o.lt);have I:=zz (p.o.below W);clear V;go_wp2_with fail;refine(Xa w.heap.size p1 p2 a b _ x.o I.o k.o (Cn (by have:=c.o;omega)) (Cn (by have:=f.o;omega))).mono ?_;rintro e w3 ⟨rfl,D,C⟩;have T:=zz D;have z:=zz (below_grown (Bh (Bh ((Below.refl w.heap.size w).alloc Nr (.cells aK 159)) Nr B) Nr W) Nr C (fun g e=>by injection e with e;omega));clear D C;have d:Hid (Io a b=stop ((a*b+2 ^ 31)/2 ^ 32)):=zz rfl;generalize a*b=X at T Z d ⊢;go_wp2_with fail;refine(SQ 31 0 31 _ rfl Aa Aa).mono ?_;rintro e w4 ⟨p4,rfl,qR,G,H⟩;have n:=zz G;have Y:=zz (T.o.below H);have m:=CU z H;clear G;go_wp2_with fail;refine(Hu w.heap.size w.heap.size p4 X (2 ^ 31) _ Y.o.isInt Y.o n.o (Cn (by have:=Z.o;omega)) (Cn El)).mono ?_;rintro e w5 ⟨rfl,R,M⟩;have s:=zz R;have u:=zz (below_grown m.o Nr M (fun g e=>by injection e with e;omega));clear R M;go_wp2_with fail;refine(SQ 32 1 0 _ rfl Aa Aa).mono ?_;rintro e w6 ⟨p6,rfl,qV,O,J⟩
 have v:=zz O;have F:=zz (s.o.below J);have A:=CU u J;clear O;go_wp2_with fail;refine(M0 w.heap.size p6 (X+2 ^ 31) (2 ^ 32) _ F.o v.o (Cn (by have:=Z.o;omega)) El (Cn El)).mono ?_;rintro e w7 ⟨p7,rfl,qU,L,l⟩;have t:=zz L;have j:=CU A l;clear L;go_wp2_with fail;refine(KR p7 _ _ t.o (Cn (by have:=Z.o;omega))).mono ?_;rintro e w8 ⟨rfl,rfl⟩;generalize E:stop ((X+2 ^ 31)/2 ^ 32)=r;have q:=zz E;clear E;go_wp2_with fail
 go_ret2
 exact⟨by rw[d.o,q.o];rfl,j.o⟩
end BigW
namespace BigW
open Go.RowKit Mem BigLaw
def Ol(a b:Int):Int×Bool:=stop (a+b)
def WS(a b:Int):Int×Bool:=stop (a-b)
def In64(a:Int):Prop:= -9223372036854775808<=a/\a<=9223372036854775807
def Kr(X:Int):In64 (stop X).1:=by
 unfold stop KN In64
 split
 . rename_i h;exact of_decide_eq_true h
 split<;>exact⟨El,El⟩
def Ce(a b:Int):In64 (Io a b).1:=Kr _
def BZ(a b:Int):In64 (Ol a b).1:=Kr _
def Eh(a b:Int):In64 (WS a b).1:=Kr _
def Nq(w:World)(T:TypeId)(g:Nat)(x:Bool):Prop:=Ae w g T #[.bool x]
def Vh(w w':World)(T:TypeId)(g:Nat)(x:Bool)(r:Int×Bool)(e:Ending):Prop:=
 e=.returned (.int .i64 r.1)/\Nq w' T g (x||r.2)/\w.grownBy w' (some g)
def Nq.grown{w w':World}{T:TypeId}{g:Nat}{x:Bool}(h:Nq w T g x){row:Option Nat}(Y:w.grownBy w' row)(Z:some g≠row):Nq w' T g x:=Ae.grown h Y Z
def Nq.below{w w':World}{T:TypeId}{g:Nat}{x:Bool}(h:Nq w T g x)(hb:Below w.heap.size w w'):Nq w' T g x:=Ae.below h hb (Ae.lt h)
def Na(g:Nat)(x:Bool)(n:Int)(b:Bool)(w:World)(h:Nq w 163 g x):
  Calls prog 137 #[.pointer (some ⟨g,0,none⟩),.int .i64 n,.bool b] w fun e w'=>Vh w w' 163 g x (n,b) e:=by
 have Y:=Ae.cell h 0;have X:=Ae.thaw h 0;simp only[List.getElem?_toArray,List.getElem?_cons_zero]at Y;have Z:=zz h;clear h
 cases b
 .go_in
  go_wp2_with fail
  go_ret
  exact⟨rfl,by rw[Bool.or_false];exact Z.o,MR _ _⟩
 go_in
 go_wp2_with fail
 go_ret
 exact⟨rfl,by rw[Bool.or_true];exact Z.o.set 0 _,Ee _ _ _ _⟩
def GI(g:Nat)(x:Bool)(a b:Int)(w:World)(h:Nq w 163 g x)(T:In64 a)(hb:In64 b):
  Calls prog 115 #[.pointer (some ⟨g,0,none⟩),.int .i64 a,.int .i64 b] w fun e w'=>Vh w w' 163 g x (Ol a b) e:=by
 have N:=zz h;have L:=zz T;have O:=zz hb;clear h T hb
 go_in
 go_wp2_with fail;refine(Yt a b _ L.o O.o).mono ?_;rintro e J ⟨rfl,Y⟩;have V:=zz (N.o.below Y);obtain⟨r,W⟩:=AJ (Ol a b);have R:=zz W
 rw[show stop (a+b)=r from W]
 clear W;obtain⟨n,b'⟩:=r;go_wp2_with fail;refine(Na g x n b' _ V.o).mono ?_;rintro e I ⟨rfl,Z,U⟩;have X:=zz Z;have M:=zz ((CJ Y).trans U);clear Z U;go_wp2_with fail
 go_ret
 exact⟨by rw[R.o];rfl,by rw[R.o];exact X.o,M.o⟩
def NU(g:Nat)(x:Bool)(a b:Int)(w:World)(h:Nq w 163 g x)(T:In64 a)(hb:In64 b):
  Calls prog 114 #[.pointer (some ⟨g,0,none⟩),.int .i64 a,.int .i64 b] w fun e w'=>Vh w w' 163 g x (WS a b) e:=by
 have N:=zz h;have L:=zz T;have O:=zz hb;clear h T hb
 go_in
 go_wp2_with fail;refine(YE a b _ L.o O.o).mono ?_;rintro e J ⟨rfl,Y⟩;have V:=zz (N.o.below Y);obtain⟨r,W⟩:=AJ (WS a b);have R:=zz W
 rw[show stop (a-b)=r from W]
 clear W;obtain⟨n,b'⟩:=r;go_wp2_with fail;refine(Na g x n b' _ V.o).mono ?_;rintro e I ⟨rfl,Z,U⟩;have X:=zz Z;have M:=zz ((CJ Y).trans U);clear Z U;go_wp2_with fail
 go_ret
 exact⟨by rw[R.o];rfl,by rw[R.o];exact X.o,M.o⟩
def FM(g:Nat)(x:Bool)(a b:Int)(w:World)(h:Nq w 163 g x)(T:In64 a)(hb:In64 b):
  Calls prog 116 #[.pointer (some ⟨g,0,none⟩),.int .i64 a,.int .i64 b] w fun e w'=>Vh w w' 163 g x (Io a b) e:=by
 have N:=zz h;have L:=zz T;have O:=zz hb;clear h T hb
 go_in
 go_wp2_with fail;refine(Ya a b _ L.o O.o).mono ?_;rintro e J ⟨rfl,Y⟩;have V:=zz (N.o.below Y);obtain⟨r,W⟩:=AJ (Io a b);have R:=zz W;rw[W];clear W;obtain⟨n,b'⟩:=r;go_wp2_with fail;refine(Na g x n b' _ V.o).mono ?_;rintro e I ⟨rfl,Z,U⟩;have X:=zz Z;have M:=zz ((CJ Y).trans U);clear Z U;go_wp2_with fail
 go_ret
 exact⟨by rw[R.o];rfl,by rw[R.o];exact X.o,M.o⟩
end BigW
namespace BigW
open Go.RowKit Mem BigLaw
def QZ(p J:Nat)(X:Int)(w:World)(C:Dz w p)(R:Cm w J X)(G:X.natAbs<pw 100):
  Calls prog 159 #[.pointer (some ⟨p,0,none⟩),.pointer (some ⟨J,0,none⟩)] w fun e w'=>e=.returned (.pointer (some ⟨p,0,none⟩))/\Cm w' p (-X)/\w.grownBy w' (some p):=by
 obtain⟨A,c,l,E,s,F,H,L⟩:=R.parts;have t:=zz (Jw H L G);have M:=zz F;have T:=zz H
 have W:=zz (show val l=(-X).natAbs by rw[Int.natAbs_neg];exact L)
 have V:=zz ((Lr X).neg);have D:=zz C;have N:=zz R.lt;clear F H L C R G;generalize-X=Z at W V ⊢;generalize decide (X<0)=r at E V
 go_in
 go_wp2_with fail
 go_region_law (first
  |(go_simp;go_at_call 172;refine(NE A c l _ _ Nr M.o.drew t.o).mono ?_;rintro e v ⟨u,z,rfl,I,Y⟩;have y:=(BF Y J 0 N.o).trans E)
  |(go_simp;go_at_call 110;refine(FZ p _ u l z _ Z (D.o.drew.below Y D.o.lt) I T.o W.o (Ij T.o W.o _ V.o)).mono ?_;rintro e q ⟨rfl,U,O⟩))
 all_goals
  have x:=zz U;clear U;go_wp2_with fail
  go_ret
  exact⟨rfl,x.o,(show w.grownBy v (some p)from⟨Y.os,Y.tape,Y.output,Y.size,fun g B _=>Y.block g B⟩).trans O⟩
end BigW
namespace FixDivLaw
def nearest(a b:Int):Int:=if b<0 then(-a*8589934592+ -b)/(2* -b)else(a*8589934592+b)/(2*b)
def fu{q d r:Int}(Y:0<=r)(Z:r<d):(2*(q*d+r)+d)/(2*d)=q+if d<=2*r then 1 else 0:=by
 have e:2*(q*d+r)+d=(2*r+d)+(2*d)*q:=by
  rw[Int.mul_add,Int.mul_assoc 2 d q,Int.mul_comm d q];omega
 rw[e,Int.add_mul_ediv_left _ _ Aa]
 split
 .have:(2*r+d)/(2*d)=1:=by
   refine Int.le_antisymm ?_ ?_
   . exact Int.le_of_lt_add_one (Int.ediv_lt_of_lt_mul Aa Aa)
   exact(Int.le_ediv_iff_mul_le Aa).2 Aa
  omega
 have:(2*r+d)/(2*d)=0:=Int.ediv_eq_zero_of_lt Aa Aa;omega
def fw{q d r:Int}(Y:0<=r)(Z:r<d):(-(2*(q*d+r))+d)/(2*d)= -(q+if d<2*r then 1 else 0):=by
 have e: -(2*(q*d+r))+d=(d-2*r)+(2*d)*(-q):=by
  rw[Int.mul_add,Int.mul_neg,Int.mul_assoc 2 d q,Int.mul_comm d q];omega
 rw[e,Int.add_mul_ediv_left _ _ Aa]
 split
 .have:(d-2*r)/(2*d)= -1:=by
   refine Int.le_antisymm ?_ ?_
   . exact Int.le_of_lt_add_one (Int.ediv_lt_of_lt_mul Aa Aa)
   exact(Int.le_ediv_iff_mul_le Aa).2 Aa
  omega
 have:(d-2*r)/(2*d)=0:=Int.ediv_eq_zero_of_lt Aa Aa;omega
def jK(N hi lo d:Nat)(Y:0<d)(X:N=hi*18446744073709551616+lo):
  (hi/d)*18446744073709551616+(hi%d*18446744073709551616+lo)/d=N/d/\(hi%d*18446744073709551616+lo)%d=N%d:=by
 have Z:=Nat.div_add_mod hi d
 have e:N=(hi%d*18446744073709551616+lo)+d*(hi/d*18446744073709551616):=by
  have W:hi*18446744073709551616=(d*(hi/d)+hi%d)*18446744073709551616:=congrArg (· *18446744073709551616) Z.symm;rw[X,W,Nat.add_mul,Nat.mul_assoc];omega
 rw[e];exact⟨by rw[Nat.add_mul_div_left _ _ Y,Nat.add_comm],by rw[Nat.add_mul_mod_self_left]⟩
def Vw(N d:Nat):(N:Int)=((N/d:Nat):Int)*(d:Int)+((N%d:Nat):Int):=by
 have:=Nat.div_add_mod N d;rw[Nat.mul_comm]at this;rw[←Int.natCast_mul,←Int.natCast_add,this]
def Uj{a b:Int}(h:(a<0/\b<0)\/(0<=a/\0<b)):nearest a b=((a.natAbs*4294967296/b.natAbs+if b.natAbs<=2*(a.natAbs*4294967296%b.natAbs)then 1 else 0:Nat):Int):=by
 have hb:0<b.natAbs:=Aa;have R:=Nat.mod_lt (a.natAbs*4294967296) hb;have T:=Vw (a.natAbs*4294967296) b.natAbs;have V:=fu (q:=((a.natAbs*4294967296/b.natAbs:Nat):Int)) (d:=(b.natAbs:Int)) (r:=((a.natAbs*4294967296%b.natAbs:Nat):Int)) Aa Aa;rw[←T]at V
 have e:nearest a b=(2*((a.natAbs*4294967296:Nat):Int)+(b.natAbs:Int))/(2*(b.natAbs:Int)):=by
  unfold nearest
  rcases h with⟨U,W⟩|⟨U,W⟩
  .rw[Ao W];have Y: -a*8589934592+ -b=2*((a.natAbs*4294967296:Nat):Int)+(b.natAbs:Int):=Aa;have Z: -b=(b.natAbs:Int):=Aa;rw[Y,Z]
  rw[Aj Aa];have Y:a*8589934592+b=2*((a.natAbs*4294967296:Nat):Int)+(b.natAbs:Int):=Aa;have Z:b=(b.natAbs:Int):=Aa;rw[Y,←Z]
 rw[e,V];generalize a.natAbs*4294967296/b.natAbs=q;generalize a.natAbs*4294967296%b.natAbs=r
 by_cases X:b.natAbs<=2*r
 . rw[Ao X,Ao Aa];omega
 rw[Aj X,Aj Aa];omega
def Ry{a b:Int}(h:(a<0/\0<b)\/(0<=a/\b<0)):nearest a b= -((a.natAbs*4294967296/b.natAbs+if b.natAbs<2*(a.natAbs*4294967296%b.natAbs)then 1 else 0:Nat):Int):=by
 have hb:0<b.natAbs:=Aa;have R:=Nat.mod_lt (a.natAbs*4294967296) hb;have T:=Vw (a.natAbs*4294967296) b.natAbs;have V:=fw (q:=((a.natAbs*4294967296/b.natAbs:Nat):Int)) (d:=(b.natAbs:Int)) (r:=((a.natAbs*4294967296%b.natAbs:Nat):Int)) Aa Aa;rw[←T]at V
 have e:nearest a b=(-(2*((a.natAbs*4294967296:Nat):Int))+(b.natAbs:Int))/(2*(b.natAbs:Int)):=by
  unfold nearest
  rcases h with⟨U,W⟩|⟨U,W⟩
  .rw[Aj Aa];have Y:a*8589934592+b= -(2*((a.natAbs*4294967296:Nat):Int))+(b.natAbs:Int):=Aa;have Z:b=(b.natAbs:Int):=Aa;rw[Y,←Z]
  rw[Ao W];have Y: -a*8589934592+ -b= -(2*((a.natAbs*4294967296:Nat):Int))+(b.natAbs:Int):=Aa;have Z: -b=(b.natAbs:Int):=Aa;rw[Y,Z]
 rw[e,V];generalize a.natAbs*4294967296/b.natAbs=q;generalize a.natAbs*4294967296%b.natAbs=r
 by_cases X:b.natAbs<2*r
 . rw[Ao X,Ao Aa];omega
 rw[Aj X,Aj Aa];omega
end FixDivLaw
end Go.Proofs.YtjobajeggllmiaaGreat
