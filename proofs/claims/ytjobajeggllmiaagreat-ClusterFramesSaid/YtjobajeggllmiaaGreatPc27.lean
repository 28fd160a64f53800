import Derived.Test.YtjobajeggllmiaaGreatPc0
import Derived.Test.YtjobajeggllmiaaGreatPc26
set_option linter.all false
set_option maxHeartbeats 100000000
set_option maxRecDepth 100000
namespace Go.Proofs.YtjobajeggllmiaaGreat
open Ms Rg _root_.Go.Proofs.Tryz
namespace Nd
open Go.RowKit Mem Rws Flat
def Gh(o:Nat->Option Cw)(i k:Nat):Option (List Int):=
 match o i,o k with
 |some a,some b=>if a.zs=b.zs then some a.zs else none
 |_,_=>none
def pairs:List (Nat×Nat):=[(0,1),(0,2),(0,3),(1,2),(1,3),(2,3)]
def Gf(o:Nat->Option Cw):Option (List Int):= pairs.findSome? fun p=>Gh o p.1 p.2
def Fe(o:Nat->Option Cw)(i k:Nat):Prop:=∀a b,a<b->b<4->(a<i\/a=i/\b<k)->Gh o a b=none
def Fe.start(o:Nat->Option Cw):Fe o 0 1:=fun a b Y Z X=>by omega
def Fe.step{o:Nat->Option Cw}{i k:Nat}(h:Fe o i k)(X:Gh o i k=none):Fe o i (k+1):=fun a b Y Z W=>by
 by_cases e:a=i/\b=k
 . rw[e.1,e.2];exact X
 exact h a b Y Z Aa
def Fe.next{o:Nat->Option Cw}{i:Nat}(h:Fe o i 4):Fe o (i+1) (i+1+1):=fun a b Y Z X=>h a b Y Z Aa
def Fe.all{o:Nat->Option Cw}{i k:Nat}(hi:4<=i)(h:Fe o i k):Gf o=none:=by
 have Z:∀a b,a<b->b<4->Gh o a b=none:=fun a b X Y=>h a b X Y Aa
 simp[Gf,pairs,Z 0 1,Z 0 2,Z 0 3,Z 1 2,Z 1 3,Z 2 3]
def Fe.found{o:Nat->Option Cw}{i k:Nat}(h:Fe o i k)(X:i<k)(W:k<4){zs:List Int}(Y:Gh o i k=some zs):Gf o=some zs:=by
 have Z:∀a b,a<b->b<4->(a<i\/a=i/\b<k)->Gh o a b=none:=h;obtain⟨rfl,rfl⟩|⟨rfl,rfl⟩|⟨rfl,rfl⟩|⟨rfl,rfl⟩|⟨rfl,rfl⟩|⟨rfl,rfl⟩:(i=0/\k=1)\/(i=0/\k=2)\/(i=0/\k=3)\/(i=1/\k=2)\/(i=1/\k=3)\/(i=2/\k=3):=Aa
 . simp[Gf,pairs,Y]
 . simp[Gf,pairs,Y,Z 0 1]
 . simp[Gf,pairs,Y,Z 0 1,Z 0 2]
 . simp[Gf,pairs,Y,Z 0 1,Z 0 2,Z 0 3]
 . simp[Gf,pairs,Y,Z 0 1,Z 0 2,Z 0 3,Z 1 2]
 simp[Gf,pairs,Y,Z 0 1,Z 0 2,Z 0 3,Z 1 2,Z 1 3]
def Ta{o:Nat->Option Cw}{i k:Nat}{a b:Cw}(Z:o i=some a)(hb:o k=some b)(h:a.zs=b.zs):Gh o i k=some a.zs:=by
 unfold Gh;rw[Z,hb];exact Ao h
def Qf{o:Nat->Option Cw}{i k:Nat}{a b:Cw}(Z:o i=some a)(hb:o k=some b)(h:¬a.zs=b.zs):Gh o i k=none:=by
 unfold Gh;rw[Z,hb];exact Aj h
def QF{o:Nat->Option Cw}{i k:Nat}(Z:o i=none):Gh o i k=none:=by unfold Gh;rw[Z]
def Qp{o:Nat->Option Cw}{i k:Nat}(hb:o k=none):Gh o i k=none:=by
 unfold Gh;rw[hb];cases o i<;>rfl
def MC(Z:List Int)(f:Nat->Value):Nat->Value:=if CQ Z=true then EX Z f else f
def Gc(o:Nat->Option Cw)(f:Nat->Value):Nat->Value:=match Gf o with
 |some zs=>MC zs f
 |none=>f
def Jd(f:Nat->Value):Bool:=bv (f 72)&&(iv (f 71)!=iv (f 70))
def Dy(o:Nat->Option Cw)(f:Nat->Value):Nat->Value:=if Jd f=true then Gc o f else f
def gK{f:Nat->Value}(Z:∀i,i<73->C9 (Ar i) (f i))(Y:List Int):∀i,i<73->C9 (Ar i) (MC Y f i):=by
 unfold MC;split
 . exact aj Z Y
 exact Z
def jg{f:Nat->Value}(Z:∀i,i<73->C9 (Ar i) (f i))(o:Nat->Option Cw):∀i,i<73->C9 (Ar i) (Gc o f i):=by
 unfold Gc
 cases Gf o with
 |some zs=>exact gK Z zs
 |none=>exact Z
def Nv{f:Nat->Value}(Z:∀i,i<73->C9 (Ar i) (f i))(o:Nat->Option Cw):∀i,i<73->C9 (Ar i) (Dy o f i):=by
 unfold Dy;split
 . exact jg Z o
 exact Z
def XM(Z:List Int)(f:Nat->Value)(i:Nat)(h:i<6\/39<=i):MC Z f i=f i:=by
 unfold MC;split
 .rcases h with h|h
  . exact Yn Z f i h
  exact WJ Z f i h
 rfl
def XR(o:Nat->Option Cw)(f:Nat->Value)(i:Nat)(h:i<6\/39<=i):Gc o f i=f i:=by
 unfold Gc
 cases Gf o with
 |some zs=>exact XM zs f i h
 |none=>rfl
def Km(o:Nat->Option Cw)(f:Nat->Value)(i:Nat)(h:i<6\/39<=i):Dy o f i=f i:=by
 unfold Dy;split
 . exact XR o f i h
 rfl
def Jt(w:World)(B:Nat)(o:Option Cw)(v:Value):Prop:=
 match o with
 |some m=>∃a c,v=.slice (some a) m.zs.length c/\Rd w B 1 (some a) m.zs.length (Ms.AQ m.zs)/\m.zs.length<=c
 |none=>v=.slice none 0 0
def Jt.of{w:World}{base:Nat}{o:Option Cw}{v:Value}(h:EH w base o v):Jt w w.heap.size o v:=by
 cases o with
 |none=>exact h
 |some m=>obtain⟨a,c,rfl,Z⟩:=h;exact⟨a,c,rfl,Rd.Bu Z,(BU Z).2⟩
def Jt.below{w w':World}{B:Nat}{o:Option Cw}{v:Value}(h:Jt w B o v)(hb:Below B w w'):Jt w' B o v:=by
 cases o with
 |none=>exact h
 |some m=>obtain⟨a,c,e,Z,Y⟩:=h;exact⟨a,c,e,Z.below hb,Y⟩
def Jt.more{w:World}{B Z:Nat}{o:Option Cw}{v:Value}(h:Jt w B o v)(Y:B<=Z):Jt w Z o v:=by
 cases o with
 |none=>exact h
 |some m=>obtain⟨a,c,e,X,W⟩:=h;exact⟨a,c,e,X.more Y,W⟩
end Nd
namespace Nd
open Go.RowKit Mem Rws Flat
def EQ(g:Nat->Value)(j:Nat):Value:=if j<2 then g j else if j<5 then g (65+j)else if j<8 then g (6+(j-5)*7)else if j=8 then g 70 else if j=9 then g 72 else g (17+j)
def JO(g:Nat->Value):row 14 (EQ g)=#[g 0,g 1,g 67,g 68,g 69,g 6,g 13,g 20,g 70,g 72,g 27,g 28,g 29,g 30]:=rfl
def Uh(w w':World)(f:Nat->Value)(Z:List Bool)(pu:Array Value)(e:Ending):Prop:=
 ∃A c,e=.returned (.tuple #[.agg (row 74 (Ab f (.slice A Z.length c))),.agg pu])/\Rd w' w'.heap.size 1 A Z.length (Au Z)/\Below w.heap.size w w'/\(∀a,A=some a->w.heap.size<=a.block)/\(A=none->c=0)/\Z.length<=c
def Oy{f:Nat->Value}(Z:∀i,i<73->C9 (Ar i) (f i)):∃a b u0 u1 u2 T V W d:Int,∃s U X Y i3:Bool,f 0=.int .i64 a/\f 1=.int .i64 b/\f 67=.int .i64 u0/\f 68=.int .i64 u1/\f 69=.int .i64 u2/\f 6=.int .i64 T/\f 13=.int .i64 V/\f 20=.int .i64 W/\f 70=.int .i64 d/\f 72=.bool s/\f 27=.bool U/\f 28=.bool X/\f 29=.bool Y/\f 30=.bool i3:=by
 obtain⟨a,N⟩:=Z 0 Aa;obtain⟨b,hb⟩:=Z 1 Aa;obtain⟨u0,L⟩:=Z 67 Aa;obtain⟨u1,G⟩:=Z 68 Aa;obtain⟨u2,H⟩:=Z 69 Aa;obtain⟨T,F⟩:=Z 6 Aa;obtain⟨V,E⟩:=Z 13 Aa;obtain⟨W,D⟩:=Z 20 Aa;obtain⟨d,C⟩:=Z 70 Aa;obtain⟨s,I⟩:=Z 72 Aa;obtain⟨U,J⟩:=Z 27 Aa;obtain⟨X,M⟩:=Z 28 Aa;obtain⟨Y,O⟩:=Z 29 Aa;obtain⟨i3,R⟩:=Z 30 Aa;exact⟨a,b,u0,u1,u2,T,V,W,d,s,U,X,Y,i3,N,hb,L,G,H,F,E,D,C,I,J,M,O,R⟩
def Vv{w w':World}{base G:Nat}{e:TypeId}{size:Nat}{v:Value}{n:Nat}{xs:List Value}(h:w.ownsRow base e size v n xs)(hb:Below G w w')(R:∀g,v.ownBlock=some g->g<G):w'.ownsRow base e size v n xs:=by
 obtain⟨Z,h|⟨b,X,Y,W,U,T,V⟩⟩:=h
 . exact⟨Z,.inl h⟩
 exact⟨Z,.inr ⟨b,X,Y,W,U,(hb.block b (R b (by rw[W];rfl))).trans T,V⟩⟩
def VZ(g:Nat->Value)(k j:Nat):Value:=if 5+k<=j/\j<8 then .int .i64 0 else EQ g j
def gT(g:Nat->Value):row 14 (VZ g 0)=#[g 0,g 1,g 67,g 68,g 69,.int .i64 0,.int .i64 0,.int .i64 0,g 70,g 72,g 27,g 28,g 29,g 30]:=rfl
def dI(g:Nat->Value):row 14 (VZ g 3)=row 14 (EQ g):=AA fun j Z=>Aj Aa
def fZ(g:Nat->Value)(k:Nat)(Y:k<3){v:Value}(Z:EQ g (5+k)=v):(row 14 (VZ g k)).setIfInBounds (5+k) v=row 14 (VZ g (k+1)):=by
 subst Z;rw[Di];refine AA fun j X=>?_
 unfold VZ
 by_cases e:j=5+k
 . subst e;rw[Ao rfl,Aj Aa]
 rw[Aj e]
 by_cases h:5+k<=j/\j<8
 . rw[Ao h,Ao Aa]
 rw[Aj h,Aj Aa]
def jO{f:Nat->Value}(X:∀i,i<73->C9 (Ar i) (f i))(k:Nat)(Y:k<3):∃a b c d e m:Int,∃t:Bool,(row 7 fun j=>f (6+(k*7+j)))=(AZ a b c d e t m)/\EQ f (5+k)=.int .i64 a:=by
 obtain⟨a,b,c,d,e,m,t,h,_⟩:=Ki X k Y;refine⟨a,b,c,d,e,m,t,h,?_⟩
 have Z:(row 7 fun j=>f (6+(k*7+j)))[0]?=some (.int .i64 a):=by rw[h];rfl
 rw[Ah Aa]at Z;have W:=Option.some.inj Z;rw[←W];obtain rfl|rfl|rfl:k=0\/k=1\/k=2:=Aa
 all_goals rfl
end Nd
namespace Cf
open Go.RowKit Mem Rws Nd Cl
structure Du where
 fr:Int
 F:Nat->Nat->Value
 V:Nat->List Bool
structure He where
 rd:Nat->Int
 bad:Int
 ls:List IC
def mX(x:He)(i:Nat):List Int:=[x.rd (i*3),x.rd (i*3+1),x.rd (i*3+2)]
def dB(i:Nat):Int:=(i:Int)
section
variable (c : Du) (x : He)
def G1(i:Nat):Nat->Value:=Dh (c.F i) c.fr i (x.rd (i*3)) (x.rd (i*3+1)) (x.rd (i*3+2))
def F1:Nat->Nat->Value:=Dv x.bad (G1 c x) c.F 4
noncomputable def X1:Nat->List Cw:=LZ x.bad 0 x.ls (fun _=>1) dB (fun _=>c.fr) (mX x) 4
noncomputable def G2(i:Nat):Nat->Value:=Bp (F1 c x i) (KX (i:Int) c.fr (X1 c x i)) 4
noncomputable def F2:Nat->Nat->Value:=Dv x.bad (G2 c x) (F1 c x) 4
noncomputable def X2:Nat->List Cw:=LZ x.bad 1 x.ls (fun _=>2) dB (fun _=>c.fr) (fun i=>dD (G2 c x i)) 4
noncomputable def A3(i:Nat):Nat->Int:=GD i c.fr (X2 c x i) (F2 c x i)
noncomputable def D3(i:Nat):Int:=EF (Bv (F2 c x i) (A3 c x i) Dp 3 3)
noncomputable def G3(i:Nat):Nat->Value:=Kv i (A3 c x i) (F2 c x i)
noncomputable def F3:Nat->Nat->Value:=Dv x.bad (G3 c x) (F2 c x) 4
noncomputable def X3:Nat->List Cw:=LZ x.bad 2 x.ls (fun _=>3) dB (fun _=>c.fr) (fun i=>[D3 c x i]) 4
noncomputable def G4(i:Nat):Nat->Value:=DX (F3 c x i) (OQ (i:Int) c.fr (X3 c x i)) 4
noncomputable def F4:Nat->Nat->Value:=Dv x.bad (G4 c x) (F3 c x) 4
noncomputable def X4:Nat->List Cw:=LZ x.bad 3 x.ls (fun _=>2) dB (fun _=>c.fr) (fun i=>hvs (G4 c x i)) 4
noncomputable def L5(i:Nat):Nat->Int:=E9 i c.fr (X4 c x i) (F4 c x i)
noncomputable def G5(i:Nat):Nat->Value:=DW (L5 c x i) (F4 c x i)
noncomputable def V5(i:Nat):List Bool:=ET (L5 c x i) (Gz (F4 c x i))
noncomputable def F5:Nat->Nat->Value:=Dv x.bad (G5 c x) (F4 c x) 4
noncomputable def W5:Nat->List Bool:=Dv x.bad (V5 c x) c.V 4
noncomputable def X5:Nat->List Cw:=LZ x.bad 4 x.ls (fun _=>5) dB (fun _=>c.fr) (fun i=>Fy (G5 c x i)) 4
noncomputable def G6(i:Nat):Nat->Value:=Dy (fun j:Nat=>Be (i:Int) c.fr 5 24 (j:Int) (X5 c x i)) (F5 c x i)
noncomputable def F6:Nat->Nat->Value:=Dv x.bad (G6 c x) (F5 c x) 4
noncomputable def next:Du:=⟨c.fr+1,F6 c x,W5 c x⟩
def Bz(Z:Int):Nat->List Nat
 |0=>[]
 |n+1=>Bz Z n++if(n:Int)=Z then []else [n]
noncomputable def Gy(n:Nat):List Value:=(Bz x.bad n).flatMap fun i=>(row 14 (EQ (G6 c x i))).toList
end
structure Gi(c:Du):Prop where
 id:∀i,i<4->c.F i 0=.int .i64 (i:Int)
 ok:∀i,i<4->∀j,j<73->C9 (Ar j) (c.F i j)
 wf:∀i,i<4->∀j z,j<73->c.F i j=.int .i64 z->Wf z
 fr:0<=c.fr/\c.fr<1073741824
 v:∀i,i<4->(c.V i).length<=140737488351232
def DV{α:Type}{Z:Int}{G F:Nat->α}{i:Nat}(hi:i<4)(h:(i:Int)≠Z):Dv Z G F 4 i=G i:=Ao ⟨hi,h⟩
def Dw{α:Type}{Z:Int}{G F:Nat->α}{i:Nat}(h:(i:Int)=Z):Dv Z G F 4 i=F i:=Aj (fun c=>c.2 h)
end Cf
namespace Cf
open Go.RowKit Mem Rws Nd Cl
def OP(f:Nat->Value):Prop:=∀i z,i<73->f i=.int .i64 z->Wf z
def JQ{z:Int}(h: -9223372036854775808<=z/\z<9223372036854775808):Wf z:=by
 unfold Wf
 simp[Lit.wf,IntKind.min,IntKind.max,IntKind.signed,IntKind.bits]
 omega
def Qd{z:Int}(h:BigW.In64 z):Wf z:=JQ (by unfold BigW.In64 at h;omega)
def int_inj{a b:Int}(h:Value.int .i64 a=.int .i64 b):a=b:=by injection h
def iE{f:Nat->Value}(h:OP f){Y:Int}(U:Wf Y)(k:Nat){X W Z:Int}(V:Wf X)(R:Wf W)(T:Wf Z):OP (Dh f Y k X W Z):=fun i z hi e=>by
 unfold Dh over at e
 split at e
 .unfold nH at e
  split at e
  . rw[←int_inj e];exact V
  split at e
  . rw[←int_inj e];exact R
  rw[←int_inj e];exact T
 split at e
 . rw[←int_inj e];exact Ei
 split at e
 . rw[←int_inj e];exact Ei
 dsimp only at e
 split at e
 . rw[←int_inj e];exact U
 exact h i z hi e
def TL{Z:List Int}(h:∀z∈Z,Wf z)(k:Nat):Wf (Z.getD k 0):=by
 rw[List.getD_eq_getElem?_getD]
 cases e:Z[k]? with
 |none=>exact Ei
 |some z=>exact h z (List.mem_of_getElem? e)
def jN{f:Nat->Value}(h:OP f){rv:Nat->Option (List Int)}(Y:∀i Z,rv i=some Z->∀z∈Z,Wf z)(k:Nat):OP (Bp f rv k):=fun i z hi e=>by
 unfold Bp at e
 split at e
 .cases e1:rv ((i-39)/3)with
  |none=>rw[e1]at e;exact h i z hi e
  |some Z=>
   rw[e1]at e;rw[←int_inj e];exact TL (Y _ _ e1) _
 exact h i z hi e
def kD{f:Nat->Value}(h:OP f){Z:Nat->Option Int}(Y:∀i z,Z i=some z->Wf z)(k:Nat):OP (DX f Z k):=fun i z hi e=>by
 unfold DX at e
 split at e
 .cases e1:Z (i-51)with
  |none=>rw[e1]at e;exact h i z hi e
  |some y=>
   rw[e1]at e;rw[←int_inj e];exact Y _ _ e1
 exact h i z hi e
def SS(f:Nat->Value):Wf (EF f):=JQ (by
 unfold EF SumLaw.more
 have:=SumLaw.Pn (Wr.vals (Fy f)) (4294967295-((0:Int)%4294967296).toNat) Aa (Wr.KC _)
 omega)
def Xj{s:BigW.St}(h:Wf s.missed)(Y q r Z z:Int):Wf (BigW.KG s Y q r Z z).1.missed:=by
 unfold BigW.KG BigW.update
 dsimp only
 split
 . exact JQ (by show _<=IntKind.i64.wrap _/\IntKind.i64.wrap _<_;rw[IntKind.wrap_i64];omega)
 exact Ei
def aO{s:BigW.St}(h:BigW.Mi s)(X:Wf s.missed)(j:Nat){z:Int}(e:Ky s j=.int .i64 z):Wf z:=by
 obtain⟨V,W,T,Z,Y⟩:=h
 unfold Ky at e
 rcases Nat.lt_or_ge j 7 with U|U
 .obtain rfl|rfl|rfl|rfl|rfl|rfl|rfl:j=0\/j=1\/j=2\/j=3\/j=4\/j=5\/j=6:=Aa
  . rw[←int_inj e];exact Qd V
  . rw[←int_inj e];exact Qd W
  . rw[←int_inj e];exact Qd T
  . rw[←int_inj e];exact Qd Z
  . rw[←int_inj e];exact Qd Y
  . cases e
  rw[←int_inj e];exact X
 rw[show(BigW.ME s).getD j (.int .i64 0)=.int .i64 0 from by unfold Array.getD;exact dif_neg (by show ¬j<7;omega)]at e
 rw[←int_inj e];exact Ei
def kE{f:Nat->Value}(Y:∀i,i<73->C9 (Ar i) (f i))(h:OP f){z:Nat->Int}(Z:∀j,j<12->BigW.In64 (z j)):OP (Bv f z Dp 3 3):=fun i y hi e=>by
 unfold Bv at e
 split at e
 .rename_i h6
  have X:(i-6)/7<3:=Aa;refine aO (s:=JJ f z ((i-6)/7)) (BigW.kI (iO Y h _ X) _ _ _ _ _) (Xj ?_ _ _ _ _ _) _ e;exact h (6+((i-6)/7*7+6)) _ Aa (Dk Y _ Aa (by rw[PN _ Aa Aa];simp;try omega))
 split at e
 .rename_i h7
  rw[←int_inj e];exact Qd (Z _ Aa)
 split at e
 .rename_i h8
  rw[←int_inj e];exact Qd (Um Z _ Aa)
 exact h i y hi e
def oD{f:Nat->Value}(Y:∀i,i<73->C9 (Ar i) (f i))(h:OP f){z:Nat->Int}(Z:∀j,j<12->BigW.In64 (z j))(k:Nat):OP (Kv k z f):=fun i y hi e=>by
 unfold Kv at e
 split at e
 . rw[←int_inj e];exact SS _
 exact kE Y h Z i y hi e
def oU(s:RS):Prop:=∀i,i<4->(0<=s.m i/\s.m i<=2)/\(0<=s.j i/\s.j i<=2)
def ja{s:RS}(h:Ji s.f s.m s.j 4=true):oU s:=fun i hi=>by
 have Z:GoodAt s i:=Pf h i hi
 cases e:s.f i with
 |true=>have:=TY Z e;omega
 |false=>have:=Qh Z e;omega
def IV{α:Type}(g:Nat->α)(i:Nat)(v:α)(k:Nat):upd g i v k=v\/upd g i v k=g k:=by
 by_cases h:k=i
 . exact .inl (by rw[h,upd_same])
 exact .inr (J9 g v h)
def mo{s:RS}(h:oU s)(i:Nat)(hi:i<4)(b:Bool):oU (Nd.one s i b).1:=fun k Z=>by
 have X:=h k Z;have Y:=h i hi
 unfold Nd.one
 (repeat' split)<;>dsimp only
 . rcases IV s.m i 0 k with e|e<;>rw[e]<;>omega
 . rcases IV s.m i 0 k with e|e<;>rw[e]<;>omega
 . rcases IV s.m i (min (s.m i+1) 2) k with e|e<;>rw[e]<;>omega
 . rcases IV s.j i 0 k with e|e<;>rw[e]<;>omega
 . rcases IV s.j i 0 k with e|e<;>rw[e]<;>omega
 rcases IV s.j i (s.j i+1) k with e|e<;>rw[e]<;>omega
def WT{s:RS}(h:oU s)(Z:Nat->Bool):∀n,n<=4->oU (many s Z n).1
 |0,_=>h
 |n+1,hn=>by
  unfold many
  exact mo (WT h Z n Aa) n Aa _
def jR{s:RS}{X:Bool}{Z:List Bool}(h:(Fv s X Z).2.2=0):oU (Fv s X Z).1:=by
 unfold Fv at h ⊢
 by_cases W:Z.length≠4
 . rw[Ao W]at h;cases h
 rw[Aj W]at h ⊢
 by_cases Y:Ji s.f s.m s.j 4=false
 . rw[Ao Y]at h;cases h
 rw[Aj Y]at h ⊢;have hb:=ja (by simpa using Y)
 by_cases V:X=false
 . rw[Ao V];exact hb
 rw[Aj V];exact WT hb _ 4 Nr
def WG{f:Nat->Value}(h:OP f){r:RS}(Z:∀i,i<4->Wf (r.m i)/\Wf (r.j i)):OP (EW f r):=fun i z hi e=>by
 unfold EW at e
 split at e
 .unfold Bo at e
  split at e
  . cases e
  split at e
  . rw[←int_inj e];exact(Z _ Aa).1
  rw[←int_inj e];exact(Z _ Aa).2
 exact h i z hi e
def VW(L:Nat->Int)(I:Nat->Bool):∀k,k<=4->Vt.rv L I k=0\/∃i,i<4/\I i=true/\Vt.rv L I k=L i
 |0,_=>.inl rfl
 |k+1,hk=>by
  unfold Vt.rv
  split
  .rename_i h
   exact .inr ⟨k,Aa,h.1,rfl⟩
  exact VW L I k Aa
def Zz{f:Nat->Value}(h:OP f){v:Int}(Z:Wf v)(Y:Bool):OP (FJ f v Y):=fun i z hi e=>by
 unfold FJ at e
 split at e
 . rw[←int_inj e];exact Z
 split at e
 . cases e
 exact h i z hi e
def jI{f:Nat->Value}(h:OP f){L:Nat->Int}(Y:∀i,i<4->Wf (L i)):OP (DW L f):=by
 have Z:Wf (Vt.val L (Gz f)):=by
  rcases VW L (Gz f) 4 Nr with e|⟨i,hi,_,e⟩
  . unfold Vt.val;rw[e];exact Ei
  unfold Vt.val;rw[e];exact Y i hi
 unfold DW
 split
 .rename_i h0
  refine WG (Zz h Z _) fun i hi=>?_;have hb:oU (Gl L f).1:=jR h0;have:=hb i hi;exact⟨JQ Aa,JQ Aa⟩
 exact Zz h Z _
def nS{Z:List Int}(h:∀z∈Z,Wf z)(i:Nat):Wf (GN Z i):=TL h i
def Wq(v:Int)(i:Nat):Wf (Ny v i):=JQ (by unfold Ny;omega)
def lK{f:Nat->Value}(h:OP f){Z:List Int}(Y:∀z∈Z,Wf z):OP (MC Z f):=by
 unfold MC
 split
 .unfold EX
  refine WG (fun i z hi e=>?_) fun i hi=>⟨Wq _ _,Wq _ _⟩
  unfold MP at e
  split at e
  .unfold MZ at e
   split at e
   . cases e
   rw[←int_inj e];exact nS Y _
  exact h i z hi e
 exact h
def aM{o:Nat->Option Cw}{zs:List Int}(h:Gf o=some zs):∃i m,o i=some m/\m.zs=zs:=by
 unfold Gf at h
 obtain⟨p,_,Z⟩:=List.exists_of_findSome?_eq_some h
 unfold Gh at Z
 cases e:o p.1 with
 |none=>rw[e]at Z;cases Z
 |some a=>
  rw[e]at Z
  cases e2:o p.2 with
  |none=>rw[e2]at Z;cases Z
  |some b=>
   rw[e2]at Z;dsimp only at Z
   split at Z
   .injection Z with Z
    exact⟨_,a,e,Z⟩
   cases Z
def dR{f:Nat->Value}(h:OP f){o:Nat->Option Cw}(Z:∀i m,o i=some m->∀z∈m.zs,Wf z):OP (Dy o f):=by
 unfold Dy
 split
 .unfold Gc
  cases e:Gf o with
  |none=>exact h
  |some zs=>
   obtain⟨i,m,Y,rfl⟩:=aM e;exact lK h (Z i m Y)
 exact h
def Good(Z Y:Int)(F:Nat->Nat->Value):Prop:=∀i:Nat,i<4->(i:Int)≠Z->F i 0=.int .i64 (i:Int)/\F i 1=.int .i64 Y/\(∀j,j<73->C9 (Ar j) (F i j))/\OP (F i)
def Good.new{Z Y:Int}{G F:Nat->Nat->Value}(h:Good Z Y G):Good Z Y (Dv Z G F 4):=fun i hi hb=>by
 rw[DV hi hb];exact h i hi hb
def Ku(Z X:Int)(ls:List IC)(W Y V:Nat->Int)(U:Nat->List Int)(n i:Nat):∀m∈LZ Z X ls W Y V U n i,∀z∈m.zs,Wf z:=fun m R z T=>JQ (oL Z X ls W Y V U n i m R z T)
def Ng{id W Z:Int}{many:Nat}{V:Int}{Y:List Cw}{m:Cw}(X:∀m∈Y,∀z∈m.zs,Wf z)(h:Be id W Z many V Y=some m):∀z∈m.zs,Wf z:=X m (List.mem_of_find?_eq_some h)
section
variable {c : Du} {x : He}
def QD(Y:Gi c)(Z:∀i,i<12->Wf (x.rd i)):Good x.bad c.fr (F1 c x):=Good.new fun i hi hb=>
 ⟨(Yj _ _ _ hi _ _ _).trans (Y.id i hi),Yv _ _ _ hi _ _ _,JL (Y.ok i hi) _ _ hi _ _ _,iE (Y.wf i hi) (JQ (by have:=Y.fr;omega)) _ (Z _ Aa) (Z _ Aa) (Z _ Aa)⟩
def Si(h:Good x.bad c.fr (F1 c x)):Good x.bad c.fr (F2 c x):=Good.new fun i hi hb=>by
 obtain⟨W,X,U,Z⟩:=h i hi hb;refine⟨(Hz _ _ _ _ Aa).trans W,(Hz _ _ _ _ Aa).trans X,Im U _ _ Nr,jN Z (fun j T e z Y=>?_) 4⟩
 unfold KX at e
 obtain⟨m,V,rfl⟩:=Option.map_eq_some_iff.1 e;exact Ng (Ku _ _ _ _ _ _ _ _ _) V z Y
def ZR(h:Good x.bad c.fr (F2 c x)){i:Nat}(hi:i<4)(hb:(i:Int)≠x.bad):∀j,j<12->BigW.In64 (A3 c x i j):=by
 obtain⟨W,X,Y,Z⟩:=h i hi hb;exact Ot Y Z (Ku _ _ _ _ _ _ _ _ _) _ _
def YK(k:Nat)(z:Nat->Int)(f:Nat->Value)(i:Nat)(hi:i<6):Kv k z f i=f i:=by
 unfold Kv
 rw[Aj Aa,DZ _ _ _ _ _ _ Aa Aa Aa]
def Vk(h:Good x.bad c.fr (F2 c x)):Good x.bad c.fr (F3 c x):=Good.new fun i hi hb=>by
 obtain⟨W,X,Z,Y⟩:=h i hi hb;exact⟨(YK _ _ _ _ Aa).trans W,(YK _ _ _ _ Aa).trans X,Po Z _ hi _,oD Z Y (ZR h hi hb) _⟩
def Y6(h:Good x.bad c.fr (F3 c x)):Good x.bad c.fr (F4 c x):=Good.new fun i hi hb=>by
 obtain⟨X,Y,V,Z⟩:=h i hi hb;refine⟨(IX _ _ _ _ Aa).trans X,(IX _ _ _ _ Aa).trans Y,Pt V _ _ Nr,kD Z (fun j z e=>?_) 4⟩
 unfold OQ at e
 obtain⟨m,W,rfl⟩:=Option.map_eq_some_iff.1 e;exact TL (Ng (Ku _ _ _ _ _ _ _ _ _) W) 0
def ER(L:Nat->Int)(f:Nat->Value)(i:Nat)(hi:i<27):DW L f i=f i:=by
 unfold DW
 split
 .unfold EW FJ
  rw[Aj Aa,Aj Aa,Aj Aa]
 unfold FJ
 rw[Aj Aa,Aj Aa]
def Xx(h:Good x.bad c.fr (F4 c x)){i:Nat}(hi:i<4)(hb:(i:Int)≠x.bad):∀s,s<4->Wf (L5 c x i s):=fun s U=>by
 obtain⟨V,W,X,Z⟩:=h i hi hb
 unfold L5 E9
 refine PZ ?_ fun j m Y=>Ng (Ku _ _ _ _ _ _ _ _ _) Y;exact Z (51+s) _ Aa (Dk X (51+s) Aa (by unfold Ar;simp;omega))
def jM(h:Good x.bad c.fr (F4 c x)):Good x.bad c.fr (F5 c x):=Good.new fun i hi hb=>by
 obtain⟨X,Y,W,Z⟩:=h i hi hb;exact⟨(ER _ _ _ Aa).trans X,(ER _ _ _ Aa).trans Y,JN W _,jI Z (Xx h hi hb)⟩
def pG(h:Good x.bad c.fr (F5 c x)):Good x.bad c.fr (F6 c x):=Good.new fun i hi hb=>by
 obtain⟨X,Y,V,Z⟩:=h i hi hb;exact⟨(Km _ _ _ Aa).trans X,(Km _ _ _ Aa).trans Y,Nv V _,dR Z fun j m W=>Ng (Ku _ _ _ _ _ _ _ _ _) W⟩
def stays(b:Nat)(hb:(b:Int)=x.bad):F6 c x b=c.F b:=by
 unfold F6 F5 F4 F3 F2 F1
 rw[Dw hb,Dw hb,Dw hb,Dw hb,Dw hb,Dw hb]
def Ls(Z:Gi c)(W:∀i,i<12->Wf (x.rd i))(X:c.fr+1<1073741824):Gi (next c x):=by
 have Y:=pG (jM (Y6 (Vk (Si (QD Z W)))))
 refine⟨fun i hi=>?_,fun i hi=>?_,fun i hi=>?_,⟨by have:=Z.fr;show 0<=c.fr+1;omega,X⟩,fun i hi=>?_⟩
 .by_cases hb:(i:Int)=x.bad
  . show F6 c x i 0=_;rw[stays i hb];exact Z.id i hi
  exact(Y i hi hb).1
 .by_cases hb:(i:Int)=x.bad
  . show ∀j,j<73->C9 (Ar j) (F6 c x i j);rw[stays i hb];exact Z.ok i hi
  exact(Y i hi hb).2.2.1
 .by_cases hb:(i:Int)=x.bad
  . show OP (F6 c x i);rw[stays i hb];exact Z.wf i hi
  exact(Y i hi hb).2.2.2
 show(W5 c x i).length<=_
 unfold W5
 by_cases hb:(i:Int)=x.bad
 . rw[Dw hb];exact Z.v i hi
 rw[DV hi hb];show(ET _ _).length<=_;unfold ET;simp
end
end Cf
namespace Cf
open Go.ChangeShapes Go.WideShapes Go.ChangeAt Go.RowKit Mem Rws Nd Cl
def Vo(f:Nat->Value)(hf:∀i,i<73->C9 (Ar i) (f i))(k:Nat)(hk:k<4)(g:f 0=.int .i64 (k:Int))(X:Int)(Z:Nat->Int)(A:Option Addr)(t:Nat)(W:List Bool)(AI:Option Addr)(n ci u H:Nat)(w:World)(hA:A=none->t=0)(r:W.length<=t)(hl:W.length<=140737488351232)(hr:Rd w w.heap.size 1 A W.length (Au W))(hgC:u<w.heap.size)(hgI:H<w.heap.size)(hc: w.cell? ⟨u,0,none⟩=some (.int .i64 X))(hi:w.rangeAt H (k*3) ((List.range 3).map fun j=>.int .i64 (Z (k*3+j)))):
  Calls prog 15 #[.agg (row 74 (Ab f (.slice A W.length t))),.slice AI n ci,.pointer (some ⟨u,0,none⟩),.pointer (some ⟨H,0,none⟩)] w fun e w'=>Ej w w' (Dh f X k (Z (k*3)) (Z (k*3+1)) (Z (k*3+2))) W 1 (k:Int) X [Z (k*3),Z (k*3+1),Z (k*3+2)] e:=by
 have HF:=zz hf;have qU:=zz g;have HA:=zz hA;have HN:=zz r;have HL:=zz hl;have iF:(prog.info? 37).map (·.size)=some (row 74 (Ab f (.slice A W.length t))).size:=Eg
 have c0:(row 74 (Ab f (.slice A W.length t)))[0]?=some (.int .i64 (k:Int)):=by rw[Ah Aa];unfold Ab;rw[Aj Aa,g]
 obtain⟨T,B⟩:=AJ (row 74 (Ab f (.slice A W.length t)));rw[B]at iF c0 ⊢;have qV:=zz B;have hb:Below w.heap.size w (((w.alloc (.cells T 37)).alloc (.cells zeroCells37 37)).alloc (.cells QV 65)):=(((Below.refl w.heap.size w).alloc Nr (.cells T 37)).alloc Bq (.cells zeroCells37 37)).alloc Ec (.cells QV 65);have M:=zz hb
 have q:=zz (show Ae (((w.alloc (.cells T 37)).alloc (.cells zeroCells37 37)).alloc (.cells QV 65)) w.heap.size 37 T from((Ae.fresh _ _ _).alloc _).alloc _)
 have R:=zz (show Ae (((w.alloc (.cells T 37)).alloc (.cells zeroCells37 37)).alloc (.cells QV 65)) (w.heap.size+1) 37 zeroCells37 from(Ae.new Bq).alloc _)
 have U:=zz (show Ae (((w.alloc (.cells T 37)).alloc (.cells zeroCells37 37)).alloc (.cells QV 65)) (w.heap.size+1+1) 65 QV from Ae.new Bq)
 have HR:=zz (show Rd (((w.alloc (.cells T 37)).alloc (.cells zeroCells37 37)).alloc (.cells QV 65)) ((((w.alloc (.cells T 37)).alloc (.cells zeroCells37 37)).alloc (.cells QV 65))).heap.size 1 A W.length (Au W)from(hr.below hb).more hb.size)
 have YC:=zz (show(((w.alloc (.cells T 37)).alloc (.cells zeroCells37 37)).alloc (.cells QV 65)).cell? ⟨u,0,none⟩=some (.int .i64 X)from(hb.cell (p:=⟨u,0,none⟩) hgC).trans hc)
 have YI:=zz (show(((w.alloc (.cells T 37)).alloc (.cells zeroCells37 37)).alloc (.cells QV 65)).rangeAt H (k*3) ((List.range 3).map fun j=>.int .i64 (Z (k*3+j)))from fun j v hv=>(hb.cell (p:=⟨H,k*3+j,none⟩) hgI).trans (hi j v hv))
 have k0:(0:Int)<=(k:Int):=Aa;have k4:(k:Int)<4:=Aa;clear hf hA r hl B hr hb hc hi
 go_in
 go_upto_region 1 with fail
 generalize(((w.alloc (.cells T 37)).alloc (.cells zeroCells37 37)).alloc (.cells QV 65))=G at*
 obtain⟨F,z⟩:=AJ (w.heap.size);have O:=zz z;rw[z]at M q R U hgC hgI ⊢;clear z;obtain⟨L,l⟩:=AJ (F+1);rw[l]at R U ⊢;obtain⟨I,qQ⟩:=AJ (L+1);rw[qQ]at U ⊢
 have Y:=zz (show F<L/\L<I by omega)
 clear l qQ;have hb:Below G.heap.size G G.drew:=(Below.refl _ _).drew;have M:=zz (Bh M.o (Nat.le_of_eq O.o.symm) hb);have q:=AU q hb;have R:=AU R hb;have U:=AU U hb;have HR:=Iz HR hb;have qR:=zz U.o.lt;have y0:=q.o.cell 0;rw[c0]at y0;have N:Ae G.drew F 37 T/\ G.drew.cell? ⟨u,0,none⟩=some (.int .i64 X)/\ G.drew.cell? ⟨F,0,none⟩=some (.int .i64 (k:Int))/\G.drew.rangeAt H (k*3) ((List.range 3).map fun j=>.int .i64 (Z (k*3+j))):=⟨q.o,YC.o,y0,YI.o⟩;clear hb y0 c0 YC YI;refine wp_region_noPanic ?_;refine A8 [0,2,4,7] (fun w'=>Ae w' F 37 T/\ w'.cell? ⟨u,0,none⟩=some (.int .i64 X)/\ w'.cell? ⟨F,0,none⟩=some (.int .i64 (k:Int))/\w'.rangeAt H (k*3) ((List.range 3).map fun j=>.int .i64 (Z (k*3+j)))) Ap ?_
 generalize G.drew=wv at*
 refine Ba 0 (.agg T) N (hy:=?_) (h:=?_)
 . (intro w' y;exact Az 37 _ rfl _ rfl y.1 underlying37 rfl iF)
 refine Ac 1 ?_;refine Bc 2 N ?_;refine Ac 3 ?_;refine Bc 4 N ?_;refine Ac 5 ?_;refine Ac 6 ?_;refine Ba 7 (.agg (row 3 fun j=>.int .i64 (Z (k*3+j)))) N (hy:=?_) (h:=?_)
 . (intro w' y;exact BK 31 _ rfl H (k*3) 3 rfl _ _ y.2.2.2 underlying31 rfl Ap)
 refine Aw 8 ?_;refine AX ?_ ?_
 . kernel_rfl
 intro K hK;rw[Ao Bb]
 rw[←qV.o,show(row 3 fun j=>Value.int .i64 (Z (k*3+j)))=(G9 (Z (k*3)) (Z (k*3+1)) (Z (k*3+2)))from rfl]
 go_simp;clear N;refine(bJ f HF.o k hk qU.o X (Z (k*3)) (Z (k*3+1)) (Z (k*3+2)) A t W wv.heap.size wv Nr HA.o HN.o HL.o HR.o).mono ?_;rintro e w4 ⟨m,b,A3,J,rfl,h1,h2,hb,h3,h4,h5,h6⟩;have iN:(prog.info? 37).map (·.size)=some (row 74 (Ab (Dh f X k (Z (k*3)) (Z (k*3+1)) (Z (k*3+2))) (.slice m W.length b))).size:=Eg;have zN:(zeroCells37).size=(row 74 (Ab (Dh f X k (Z (k*3)) (Z (k*3+1)) (Z (k*3+2))) (.slice m W.length b))).size:=Eg;have oN:=Cv (JL HF.o X k hk (Z (k*3)) (Z (k*3+1)) (Z (k*3+2))) (A:=m) (n:=W.length) (c:=b);obtain⟨E,C⟩:=AJ (row 74 (Ab (Dh f X k (Z (k*3)) (Z (k*3+1)) (Z (k*3+2))) (.slice m W.length b)));rw[C]at iN zN oN ⊢;have qW:=zz C;clear C;have R:=AU R hb;have U:=AU U hb;have M:=zz (Bh M.o (Nat.le_of_eq O.o.symm) hb);have H1:=zz h1;have d:=zz h2;have H3:=zz h3;have H4:=zz h4;have H5:=zz (And.intro h5 h6)
 have s:=zz (show I<wv.heap.size from qR.o)
 clear h1 h2 hb h3 h4 h5 h6 HR
 unfold Ms.Jg
 generalize wv=wq at*
 generalize w4=wv at*
 refine hK.o _ _ ?_;refine Ac 9 ?_;refine Ac 10 ?_;refine Aw 11 ?_;refine AX ?_ ?_
 . kernel_rfl
 intro K hK;rw[Ao Bb];refine wp_store_row 37 _ _ rfl L E rfl rfl 37 _ R.o iN zN oN ?_;have U:=zz (U.o.setRow_other (g':=L) (by have:=Y.o;omega) E);have R:=zz (R.o.setRow E)
 have M:=zz (below_setRow M.o (show F<=L by have:=Y.o;omega) E)
 have V:=CK wv L E;have H1:=zz (Cr H1.o V.size fun D a e=>setRow_other wv L a.block E (by have:=H3.o a e;have:=s.o;have:=Y.o;omega));have d:=zz (Cr d.o V.size fun D a e=>setRow_other wv L a.block E (by have:=H4.o a e;have:=s.o;have:=Y.o;omega));clear V
 generalize(wv.setRow L E)=wv at*
 refine hK.o _ _ ?_;refine Aw 12 ?_;refine AX ?_ ?_
 . kernel_rfl
 intro K hK;rw[Ao Bb];refine wp_store_row 65 _ _ rfl I (Ms.AR 1 (k:Int) X A3 ([Z (k*3),Z (k*3+1),Z (k*3+2)]:List Int).length J) rfl rfl 65 _ U.o Ap rfl (by simp[Ms.AR,Value.oneCell']) ?_;have R:=zz (R.o.setRow_other (g':=I) (by have:=Y.o;omega) (Ms.AR 1 (k:Int) X A3 ([Z (k*3),Z (k*3+1),Z (k*3+2)]:List Int).length J));have U:=zz (U.o.setRow (Ms.AR 1 (k:Int) X A3 ([Z (k*3),Z (k*3+1),Z (k*3+2)]:List Int).length J))
 have M:=zz (below_setRow M.o (show F<=I by have:=Y.o;omega) (Ms.AR 1 (k:Int) X A3 ([Z (k*3),Z (k*3+1),Z (k*3+2)]:List Int).length J))
 have V:=CK wv I (Ms.AR 1 (k:Int) X A3 ([Z (k*3),Z (k*3+1),Z (k*3+2)]:List Int).length J);have H1:=zz (Cr H1.o V.size fun D a e=>setRow_other wv I a.block (Ms.AR 1 (k:Int) X A3 ([Z (k*3),Z (k*3+1),Z (k*3+2)]:List Int).length J) (by have:=H3.o a e;have:=s.o;have:=Y.o;omega));have d:=zz (Cr d.o V.size fun D a e=>setRow_other wv I a.block (Ms.AR 1 (k:Int) X A3 ([Z (k*3),Z (k*3+1),Z (k*3+2)]:List Int).length J) (by have:=H4.o a e;have:=s.o;have:=Y.o;omega));clear V
 generalize(wv.setRow I (Ms.AR 1 (k:Int) X A3 ([Z (k*3),Z (k*3+1),Z (k*3+2)]:List Int).length J))=wv at*
 refine hK.o _ _ ?_;(try simp only[Rg.lp]);refine Bg Ap ?_ _;refine NoPanic.normal ?_;go_wp2_with fail;refine Da rfl rfl rfl R.o ⟨by rw[underlying37],iN⟩ U.o ⟨by rw[underlying65],Ap⟩ rfl ⟨m,b,A3,J,by rw[qW.o];rfl,H1.o,d.o,by rw[O.o];exact M.o,fun a e=>?_,fun a e=>?_,H5.o.1,H5.o.2⟩
 . have:=H3.o a e;have:=s.o;have:=Y.o;rw[O.o];omega
 have:=H4.o a e;have:=s.o;have:=Y.o;rw[O.o];omega
end Cf
end Go.Proofs.YtjobajeggllmiaaGreat
