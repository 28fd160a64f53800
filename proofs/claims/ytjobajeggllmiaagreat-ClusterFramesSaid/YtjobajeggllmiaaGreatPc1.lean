import Derived.Deep.RegionHeld3
import Derived.Test.YtjobajeggllmiaaGreatPc0
set_option linter.all false
set_option maxHeartbeats 100000000
set_option maxRecDepth 100000
namespace Go.Proofs.YtjobajeggllmiaaGreat
open _root_.Go.Proofs.Tryz
namespace Rws
open Go.RowKit Mem Flat
def row(n:Nat)(f:Nat->Value):Array Value:=((List.range n).map f).toArray
def Ag(n:Nat)(f:Nat->Value):(row n f).size=n:=by simp[row]
def Ah{n:Nat}{f:Nat->Value}{i:Nat}(hi:i<n):(row n f)[i]?=some (f i):=by simp[row,hi]
def Zo{n:Nat}{f:Nat->Value}{i:Nat}(hi:n<=i):(row n f)[i]?=none:=by rw[Array.getElem?_eq_none (by rw[Ag];exact hi)]
def AA{n:Nat}{f g:Nat->Value}(h:∀i,i<n->f i=g i):row n f=row n g:=by
 unfold row
 congr 1
 exact List.map_congr_left fun i hi=>h i (List.mem_range.1 hi)
def Di{n:Nat}{f:Nat->Value}(j:Nat)(v:Value):(row n f).setIfInBounds j v=row n fun i=>if i=j then v else f i:=by
 apply Array.ext_getElem?
 intro i;rw[Array.getElem?_setIfInBounds]
 rcases Nat.lt_or_ge i n with h|h
 .rw[Ah h,Ah h]
  by_cases e:j=i
  . subst e;simp[Ag,h]
  rw[Aj e,Aj (fun h=>e h.symm)]
 rw[Zo h,Zo h]
 by_cases e:j=i
 . subst e;simp[Ag];omega
 rw[Aj e]
def Gd(n:Nat)(f:Nat->Value):(row n f).toList=(List.range n).map f:=rfl
def row_one{n:Nat}{f:Nat->Value}(h:∀i,i<n->(f i).oneCell'=true):(row n f).all (·.oneCell')=true:=by
 rw[Array.all_eq_true_iff_forall_mem];intro v Z;simp only[row,List.mem_toArray,List.mem_map,List.mem_range]at Z;obtain⟨i,hi,rfl⟩:=Z;exact h i hi
def over(o m:Nat)(g f:Nat->Value)(i:Nat):Value:=if o<=i/\i<o+m then g (i-o)else f i
def Jl{o m:Nat}{g f:Nat->Value}{i:Nat}(Y:o<=i)(Z:i<o+m):over o m g f i=g (i-o):=Ao ⟨Y,Z⟩
def Cx{o m:Nat}{g f:Nat->Value}{i:Nat}(h:i<o\/o+m<=i):over o m g f i=f i:=Aj Aa
def Dx{w:World}{b:Nat}{t:TypeId}{n:Nat}{f:Nat->Value}(h:Ae w b t (row n f))(o m:Nat)(X:o+m<=n):w.rangeAt b o ((List.range m).map fun j=>f (o+j)):=fun j v Z=>by
 have Y:j<m:=by have:=(List.getElem?_eq_some_iff.1 Z).1;simpa using this
 rw[h.cell,Ah Aa]
 simp[Y]at Z
 rw[Z]
def Cg{w:World}{b:Nat}{t:TypeId}{n:Nat}{f:Nat->Value}(h:Ae w b t (row n f))(o m:Nat)(Z:o+m<=n):w.there b o m:=fun j Y=>
 ⟨by rw[h.cell,Ah Aa];rfl,h.thaw _⟩
def Nf{b:Nat}{t:TypeId}{n:Nat}(g:Nat->Value):∀(m k o:Nat) (w:World) (f:Nat->Value),Ae w b t (row n f)->
  Ae (w.setCells b (o+k) ((List.range' k m).map g)) b t (row n fun i=>if o+k<=i/\i<o+k+m then g (i-o)else f i)
 |0,k,o,w,f,h=>by
  simp only[List.range'_zero,List.map_nil,World.setCells]
  rw[AA (f:=fun i=>if o+k<=i/\i<o+k+0 then g (i-o)else f i) (g:=f) (fun i hi=>Aj Aa)]
  exact h
 |m+1,k,o,w,f,h=>by
  rw[List.range'_succ,List.map_cons,World.setCells];have Y:=h.set (o+k) (g k);rw[Di]at Y;have Z:=Nf g m (k+1) o _ _ Y;rw[←Nat.add_assoc]at Z
  rw[AA (g:=fun i=>if o+k+1<=i/\i<o+k+1+m then g (i-o)else if i=o+k then g k else f i) (fun i hi=>?_)]
  . exact Z
  by_cases e:i=o+k
  .subst e;rw[Ao Aa,Aj Aa,Ao rfl,Nat.add_sub_cancel_left]
  by_cases X:o+k+1<=i/\i<o+k+1+m
  . rw[Ao Aa,Ao X]
  rw[Aj Aa,Aj X,Aj e]
def DI{w:World}{b:Nat}{t:TypeId}{n:Nat}{f:Nat->Value}(h:Ae w b t (row n f))(o m:Nat)(g:Nat->Value):Ae (w.setCells b o (row m g).toList) b t (row n (over o m g f)):=by
 have:=Nf g m 0 o w f h;rw[Gd,List.range_eq_range'];simp only[Nat.add_zero]at this;exact this
def Al{w:World}{b b':Nat}{t:TypeId}{cs:Array Value}(hb:b≠b'):∀(Z:List Value) (o:Nat) (w:World),Ae w b t cs->Ae (w.setCells b' o Z) b t cs
 |[],_,_,h=>h
 |v::r,o,w,h=>by
  rw[World.setCells];exact Al (w:=w) hb r (o+1) _ (h.other (p:=⟨b',o,none⟩) hb v)
def below_setCells{B:Nat}{b:Nat}(Z:B<=b):∀(Y:List Value) (o:Nat) {a w:World},Below B a w->Below B a (w.setCells b o Y)
 |[],_,_,_,h=>h
 |v::r,o,a,w,h=>by
  rw[World.setCells];exact below_setCells Z r (o+1) (h.setCell Z v)
section
variable {P : Program} {ops : Array Oper} {rest : List Oper} {o : Oper} {a : Act} {w : World} {Q : Exit -> Act -> World -> Prop}
def Af(Z:Region.wanted o (yielded ops a.tmps)=true)(h:∀K:Act->World->Prop,(∀a w,wpList P ops Q rest a w->K a w)->o.wp P a w K Q):wpList P ops Q (o::rest) a w:=
 wpList_step fun K hK=>by rw[Ao Z];exact h K hK
def Cb(Z:Region.wanted o (yielded ops a.tmps)=true)(ty:TypeId)(x:Operand)(Y:o.op=.load ty x)(b off m:Nat)(hx:a.eval x=.pointer (some ⟨b,off,none⟩)){t:TypeId}{n:Nat}{f:Nat->Value}(hb:Ae w b t (row n f))(hm:off+m<=n)(d:TypeDesc)(hu:P.underlying ty=some d)(hd:d.isRow=true)(hi:(P.info? ty).map (·.size)=some m)(h:wpList P ops Q rest (a.put o.dst (.agg (row m fun j=>f (off+j)))) w):wpList P ops Q (o::rest) a w:=
 Af Z fun _ hK=>wp_load_mid ty x Y b off hx _ d (Dx hb off m hm) hu hd (by rw[hi];simp) (hK _ _ h)
def Ad(Z:Region.wanted o (yielded ops a.tmps)=true)(ty:TypeId)(x:Operand)(Y:o.op=.load ty x)(b:Nat)(hx:a.eval x=.pointer (some ⟨b,0,none⟩)){t:TypeId}{cs:Array Value}(hb:Ae w b t cs)(d:TypeDesc)(hu:P.underlying ty=some d)(hd:d.isRow=true)(hi:(P.info? ty).map (·.size)=some cs.size)(h:wpList P ops Q rest (a.put o.dst (.agg cs)) w):wpList P ops Q (o::rest) a w:=
 Af Z fun _ hK=>wp_load_row ty x Y b hx t cs (0,0) d hb hu (by cases d<;>first|rfl|cases hd) hi (hK _ _ h)
def Hr(Z:Region.wanted o (yielded ops a.tmps)=true)(ty:TypeId)(x y:Operand)(Y:o.op=.store ty x y)(b off m:Nat)(g:Nat->Value)(hx:a.eval x=.pointer (some ⟨b,off,none⟩))(hy:a.eval y=.agg (row m g)){t:TypeId}{n:Nat}{f:Nat->Value}(hb:Ae w b t (row n f))(hm:off+m<=n)(hi:(P.info? ty).map (·.size)=some m)(h1:∀i,i<m->(g i).oneCell'=true)(h:wpList P ops Q rest (a.put o.dst undef) (w.setCells b off (row m g).toList)):wpList P ops Q (o::rest) a w:=
 Af Z fun _ hK=>wp_store_mid ty x y Y b off _ hx hy (by rw[Ag];exact Cg hb off m hm) (by rw[hi,Ag]) (row_one h1) (hK _ _ h)
def TT{t:TypeId}{d:Nat}{ls:List Bool}(O:RO P d t=some ls)(R:d<=10000){u:TypeDesc}(N:P.underlying t=some u)(V:u.isRow=true)(hi:(P.info? t).map (·.size)=some ls.length)(xs:Array Value)(Y:xs.size=ls.length)(X:Typed ls xs.toList)(w:World):
  (binOp .eql t (.agg xs) (.agg xs)).run P w=.ok (.bool true) w:=by
 obtain⟨v,Z,U⟩:=Flat.refl d t ls O xs 0 (by rw[List.drop_zero,←Y,←Array.length_toList,List.take_length];exact X) hi w;rw[II N V hi]at Z
 have e:xs.extract 0 (0+ls.length)=xs:=by rw[Nat.zero_add,←Y];simp
 rw[e]at Z
 injection Z with Z
 subst Z;rw[run_eql_struct,U 10000 R];rfl
def Oe{t:TypeId}(hq:P.eqGuardType P.depth t=false)(x y:Operand)(Z Y:Array Value)(w:World):(eqGuard .eql t x y (.agg Z) (.agg Y)).run P w=.ok () w:=by
 unfold eqGuard
 simp[run_program,hq]
def Gg(Z:Region.wanted o (yielded ops a.tmps)=true)(t u:TypeId)(x y:Operand)(U:o.op=.binOp .eql t x y u){d:Nat}{ls:List Bool}(V:RO P d t=some ls)(X:d<=10000){e:TypeDesc}(R:P.underlying t=some e)(Y:e.isRow=true)(hi:(P.info? t).map (·.size)=some ls.length)(hq:P.eqGuardType P.depth t=false)(f:Nat->Value)(hx:a.eval x=.agg (row ls.length f))(hy:a.eval y=.agg (row ls.length f))(ht:Typed ls ((List.range ls.length).map f))(h:wpList P ops Q rest (a.put o.dst (.bool true)) w):wpList P ops Q (o::rest) a w:=
 Af Z fun _ hK=>by
  unfold Oper.wp execOp
  simp only[U,hx,hy,Sem.run_bind,Oe hq,TT V X R Y hi _ (Ag _ _) ht,Result.andThen_ok,Sem.run_pure];exact hK _ _ h
end
end Rws
namespace Mem
def BU{w:World}{base:Nat}{e:TypeId}{size n c:Nat}{A:Option Addr}{X:List Value}(h:w.ownsRow base e size (.slice A n c) n X):(A=none->c=0)/\n<=c:=by
 obtain⟨_,⟨Z,O⟩|⟨g,U,Y,Z,_,R,V,_⟩⟩:=h
 . cases Z;exact⟨fun _=>rfl,Nat.le_refl _⟩
 cases Z;exact⟨(fun h=>by cases h),V⟩
def Db{w:World}{base:Nat}{e:TypeId}{size n c:Nat}{A:Option Addr}{X:List Value}(h:w.ownsRow base e size (.slice A n c) n X):∀a,A=some a->base<=a.block:=by
 obtain⟨_,⟨Z,U⟩|⟨g,V,Y,Z,hb,O,R,_⟩⟩:=h
 . cases Z;exact fun a h=>by cases h
 cases Z;exact fun a h=>by cases h;exact hb
end Mem
namespace Ms
open Go.ChangeShapes Go.WideShapes Go.ChangeAt Go.RowKit Mem Go.Proofs.YtjobajeggllmiaaGreat.Op
structure Cw where
 k:Int
 f:Int
 n:Int
 zs:List Int
instance:Inhabited Cw:=⟨⟨0,0,0,[]⟩⟩
def Mg(m:Cw)(A:Option Addr)(c:Nat):List Value:=[.int .i64 m.k,.int .i64 m.f,.int .i64 m.n,.slice A m.zs.length c]
def Cc(w:World)(B:Nat)(A:Option Addr)(ms:List Cw):Prop:=
 ∃Z,Rd w B 4 A ms.length Z/\∀i m,ms[i]?=some m->∃a c,(Z.drop (i*4)).take 4=Mg m a c/\(a=none->c=0)/\m.zs.length<=c/\m.zs.length*8<=140737488351232/\Rd w B 1 a m.zs.length (AQ m.zs)
section
variable {w w' : World} {B B' : Nat} {A : Option Addr} {ms : List Cw}
def Cc.keep(h:Cc w B A ms)(Z:∀b o,b<B-> w'.cell? ⟨b,o,none⟩= w.cell? ⟨b,o,none⟩):Cc w' B A ms:=by
 obtain⟨O,R,X⟩:=h;refine⟨O,R.keep Z,fun i m V=>?_⟩;obtain⟨a,c,M,N,L,Y,U⟩:=X i m V;exact⟨a,c,M,N,L,Y,U.keep Z⟩
def Cc.more(h:Cc w B A ms)(Z:B<=B'):Cc w B' A ms:=by
 obtain⟨R,U,X⟩:=h;refine⟨R,U.more Z,fun i m M=>?_⟩;obtain⟨a,c,N,O,L,Y,V⟩:=X i m M;exact⟨a,c,N,O,L,Y,V.more Z⟩
def Cc.below(h:Cc w B A ms)(hb:Below B w w'):Cc w' B A ms:=h.keep fun b o Z=>hb.cell (p:=⟨b,o,none⟩) Z
def Cc.drewN(h:Cc w B A ms)(k:Nat):Cc (w.drewN k) B A ms:=h
def Cc.drew(h:Cc w B A ms):Cc w.drew B A ms:=h
def Cc.alloc(h:Cc w B A ms)(Z:B<=w.heap.size)(o:Obj):Cc (w.alloc o) B A ms:=
 h.keep fun b X Y=>World.cell?_alloc_lt w o _ (show b<w.heap.size by omega)
def Cc.nil(w:World)(B:Nat)(A:Option Addr):Cc w B A []:=⟨[],Rd.nil _ _ _ _,fun i m h=>by simp at h⟩
def Cc.at(h:Cc w B A ms){i:Nat}{m:Cw}(Y:ms[i]?=some m):∃b o a c,A=some ⟨b,o,none⟩/\b<B/\ w.cell? ⟨b,o+i*4,none⟩=some (.int .i64 m.k)/\ w.cell? ⟨b,o+i*4+1,none⟩=some (.int .i64 m.f)/\
  w.cell? ⟨b,o+i*4+2,none⟩=some (.int .i64 m.n)/\ w.cell? ⟨b,o+i*4+3,none⟩=some (.slice a m.zs.length c)/\(a=none->c=0)/\m.zs.length<=c/\m.zs.length*8<=140737488351232/\Rd w B 1 a m.zs.length (AQ m.zs):=by
 obtain⟨G,R,U⟩:=h;obtain⟨a,c,N,O,M,L,J⟩:=U i m Y;have hi:i<ms.length:=(List.getElem?_eq_some_iff.1 Y).1;obtain⟨b,o,e,hb,V⟩:=R.2 Aa
 have Z:∀j v,j<4->(Mg m a c)[j]?=some v-> w.cell? ⟨b,o+i*4+j,none⟩=some v:=fun j v I X=>by
  rw[←N,List.getElem?_take,Ao I,List.getElem?_drop]at X;have:=V _ _ X
  rwa[←Nat.add_assoc]at this
 exact⟨b,o,a,c,e,hb,Z 0 _ Aa rfl,Z 1 _ Aa rfl,Z 2 _ Aa rfl,Z 3 _ Aa rfl,O,M,L,J⟩
end
section
variable {H : Type} {enc : TypeId × Value -> H} {W : World} {base : Nat} {spare : Nat -> Bool} {held : Bool}
end
end Ms
namespace Nd
open Go.RowKit Mem
def ownsRow_below{w w':World}{base:Nat}{e:TypeId}{size:Nat}{v:Value}{n:Nat}{xs:List Value}(h:w.ownsRow base e size v n xs)(hb:Below w.heap.size w w'):w'.ownsRow base e size v n xs:=
 h.kept (row:=none) ⟨hb.os,hb.tape,hb.output,hb.size,fun g Z _=>hb.block g Z⟩ (by cases v.ownBlock<;>simp)
def Ay{w:World}{base:Nat}{e:TypeId}{size:Nat}{v:Value}{n:Nat}{xs:List Value}(h:w.ownsRow base e size v n xs){g:Nat}(N:g<base)(R:Array Value):(w.setRow g R).ownsRow base e size v n xs:=by
 obtain⟨X,h|⟨b,Y,Z,U,hb,O,V⟩⟩:=h
 . exact⟨X,.inl h⟩
 exact⟨X,.inr ⟨b,Y,Z,U,hb,(setRow_other w g b R Aa).trans O,V⟩⟩
end Nd
namespace Ms
open Go.RowKit Mem
def Ew{w w':World}{base:Nat}{e:TypeId}{size:Nat}{v:Value}{n:Nat}{xs:List Value}{row:Option Nat}(h:w.ownsRow base e size v n xs)(N:w.grownBy w' row)(hr:∀g,row=some g->∃Z t,w.heap[g]?=some (.cells Z t (0,0))/\t≠e):w'.ownsRow base e size v n xs:=by
 obtain⟨O,h|⟨b,U,Z,J,hb,Y,M⟩⟩:=h
 . exact⟨O,.inl h⟩
 have V:b<w.heap.size:=(Array.getElem?_eq_some_iff.1 Y).1
 have X:some b≠row:=fun L=>by
  obtain⟨R,t,G,I⟩:=hr b L.symm;rw[G]at Y
  injection Y with Y
  injection Y with _ F _
  exact I F
 exact⟨O,.inr ⟨b,U,Z,J,hb,(N.block b V X).trans Y,M⟩⟩
def Fb{w:World}{base:Nat}{e:TypeId}{size:Nat}{v:Value}{n:Nat}{U:List Value}(h:w.ownsRow base e size v n U){t':TypeId}(X:e≠t'):∀g,v.ownBlock=some g->∃Z t,w.heap[g]?=some (.cells Z t (0,0))/\t≠t':=fun g Y=>by
 obtain⟨N,⟨rfl,_⟩|⟨b,R,Z,rfl,hb,V,O⟩⟩:=h
 . cases Y
 injection Y with Y
 subst Y;exact⟨Z,e,V,X⟩
end Ms
namespace Vt
open Go.RowKit Mem
def Pm{w:World}{g:Nat}{e:TypeId}{size n:Nat}{v:Value}{Y:List Value}(h:w.ownsRow (g+1) e size v n Y):some g≠v.ownBlock:=fun Z=>by
 have:=(h.lt g Z.symm).1;omega
def Ch{w:World}{base g:Nat}{e:TypeId}{size n:Nat}{v:Value}{xs:List Value}(h:w.ownsRow base e size v n xs)(O:g<base){i:Nat}(u:Value):(w.setCell ⟨g,i,none⟩ u).ownsRow base e size v n xs:=by
 obtain⟨X,h|⟨b,Y,Z,U,hb,R,V⟩⟩:=h
 . exact⟨X,.inl h⟩
 exact⟨X,.inr ⟨b,Y,Z,U,hb,(Below.heap_setCell w ⟨g,i,none⟩ u b (by show b≠g;omega)).trans R,V⟩⟩
end Vt
namespace Vt
def cnt(L:Nat->Int)(I:Nat->Bool)(v:Int):Nat->Nat
 |0=>0
 |k+1=>cnt L I v k+if I k=true/\L k=v then 1 else 0
def tot(I:Nat->Bool):Nat->Nat
 |0=>0
 |k+1=>tot I k+if I k=true then 1 else 0
def vt(L:Nat->Int)(I:Nat->Bool):Nat->Nat×Int
 |0=>(0,0)
 |k+1=>if I k=true/\(vt L I k).1<cnt L I (L k) 4 then(cnt L I (L k) 4,L k)else vt L I k
def rv(L:Nat->Int)(I:Nat->Bool):Nat->Int
 |0=>0
 |k+1=>if I k=true/\(cnt L I (rv L I k) 4<cnt L I (L k) 4\/tot I k=0)then L k else rv L I k
def Lb(L:Nat->Int)(I:Nat->Bool)(v:Int):∀k,cnt L I v k<=k
 |0=>Nat.le_refl _
 |k+1=>by have:=Lb L I v k;unfold cnt;split<;>omega
def UA(I:Nat->Bool):∀k,tot I k<=k
 |0=>Nat.le_refl _
 |k+1=>by have:=UA I k;unfold tot;split<;>omega
def YL{L:Nat->Int}{I:Nat->Bool}{k:Nat}(h:I k=true):∀ {n:Nat},k<n->0<cnt L I (L k) n
 |0,hk=>by omega
 |n+1,hk=>by
  unfold cnt
  by_cases e:k=n
  . subst e;rw[Ao ⟨h,rfl⟩];omega
  have:=YL (L:=L) h (show k<n by omega);omega
def nA(L:Nat->Int)(I:Nat->Bool):∀k,(vt L I k).1<=4
 |0=>Nat.zero_le _
 |k+1=>by unfold vt;split;exact Lb L I _ 4;exact nA L I k
def gY(L:Nat->Int)(I:Nat->Bool):∀k,k<=4->(tot I k=0->vt L I k=(0,0)/\rv L I k=0)/\(0<tot I k->vt L I k=(cnt L I (rv L I k) 4,rv L I k))
 |0,_=>⟨fun _=>⟨rfl,rfl⟩,fun h=>absurd h (Nat.lt_irrefl 0)⟩
 |k+1,hk=>by
  obtain⟨R,O⟩:=gY L I k Aa
  cases hI:I k with
  |false=>
   have N:tot I (k+1)=tot I k:=by simp[tot,hI]
   have Z:vt L I (k+1)=vt L I k:=by simp[vt,hI]
   have Y:rv L I (k+1)=rv L I k:=by simp[rv,hI]
   rw[N,Z,Y];exact⟨R,O⟩
  |true=>
   have N:tot I (k+1)=tot I k+1:=by simp[tot,hI]
   refine⟨fun h=>by omega,fun _=>?_⟩
   have M:=YL (L:=L) hI (show k<4 by omega)
   rcases Nat.eq_zero_or_pos (tot I k)with V|V
   .obtain⟨X,J⟩:=R V
    have Z:vt L I (k+1)=(cnt L I (L k) 4,L k):=by simp[vt,hI,X,M]
    have Y:rv L I (k+1)=L k:=by simp[rv,hI,V]
    rw[Z,Y]
   have X:=O V
   by_cases U:cnt L I (rv L I k) 4<cnt L I (L k) 4
   .have Z:vt L I (k+1)=(cnt L I (L k) 4,L k):=by simp[vt,hI,X,U]
    have Y:rv L I (k+1)=L k:=by simp[rv,hI,U]
    rw[Z,Y]
   have Z:vt L I (k+1)=vt L I k:=by simp[vt,hI,X,U]
   have Y:rv L I (k+1)=rv L I k:=by simp[rv,hI,U];omega
   rw[Z,Y];exact X
def val(L:Nat->Int)(I:Nat->Bool):Int:=rv L I 4
def strong(L:Nat->Int)(I:Nat->Bool):Bool:=decide (tot I 4<2*(vt L I 4).1)
def agrees(L:Nat->Int)(I:Nat->Bool)(i:Nat):Bool:=decide (0<tot I 4)&&decide (L i=val L I)
def nW(L:Nat->Int)(I:Nat->Bool):(vt L I 4).2=val L I:=by
 obtain⟨Y,X⟩:=gY L I 4 Aa
 unfold val
 rcases Nat.eq_zero_or_pos (tot I 4)with Z|Z
 . rw[(Y Z).1,(Y Z).2]
 rw[X Z]
def QW(L:Nat->Int)(I:Nat->Bool):(decide (0<tot I 4)&&decide (tot I 4<2*cnt L I (rv L I 4) 4))=strong L I:=by
 obtain⟨Y,X⟩:=gY L I 4 Aa
 unfold strong
 rcases Nat.eq_zero_or_pos (tot I 4)with Z|Z
 . rw[(Y Z).1,Z];rfl
 rw[X Z];simp[Z]
end Vt
namespace Nd
open Go.RowKit Mem Rws
def Je(i:Nat):Value:=if i<4 then .bool true else .int .i64 0
def Fj(i:Nat):Value:=if i=2 then .int .i64 4294967296 else if i=4 then .int .i64 4294967296 else if i=5 then .bool false else .int .i64 0
def OY(w:World):Calls prog 62 #[] w fun e w'=>e=.returned (.agg (row 12 Je))/\Below w.heap.size w w':=by
 go_in
 go_wp2
 refine bodyPost_ret (v:=.agg (row 12 Je)) (by simp[results,Tryz.results62,go_sem];rfl) rfl ⟨rfl,?_⟩;exact DC
end Nd
namespace Nd
open Go.RowKit Mem Rws
def Bo(f:Nat->Bool)(m j:Nat->Int)(i:Nat):Value:=if i<4 then .bool (f i)else if i<8 then .int .i64 (m (i-4))else .int .i64 (j (i-8))
def EZ{f:Nat->Bool}{m j:Nat->Int}{k:Nat}(h:k<4):Bo f m j k=.bool (f k):=by unfold Bo;rw[Ao h]
def EB{f:Nat->Bool}{m j:Nat->Int}{k:Nat}(h:k<4):Bo f m j (4+k)=.int .i64 (m k):=by
 unfold Bo;rw[Aj Aa,Ao Aa,Nat.add_sub_cancel_left]
def FC{f:Nat->Bool}{m j:Nat->Int}{k:Nat}(h:k<4):Bo f m j (8+k)=.int .i64 (j k):=by
 unfold Bo;rw[Aj Aa,Aj Aa,Nat.add_sub_cancel_left]
def IQ(f:Nat->Bool)(m j:Nat->Int)(i:Nat):(Bo f m j i).oneCell'=true:=by unfold Bo;split;rfl;split<;>rfl
def FH(f:Nat->Bool):Nat->Nat
 |0=>0
 |k+1=>if f k then FH f k+1 else FH f k
def Lf(f:Nat->Bool):∀k,FH f k<=k
 |0=>Nat.le_refl _
 |k+1=>by have:=Lf f k;unfold FH;split<;>omega
def Js{P:Program}{t:TypeId}{n:Nat}{e:TypeId}(N:P.underlying t=some (.array n e)){u:TypeDesc}(U:P.underlying e=some u)(V:u.isRow=false)(R:(P.info? e).map (·.size)=some 1)(g:Nat->Value)(k:Nat)(Z:k<n)(w:World):
  (Instr.index t (.agg (row n g)) (.int .i64 (k:Int))).run P w=.ok (g k) w:=by
 have O:=Flat.Ke U V (row n g) (k*1) (g k) (by rw[Nat.mul_one];exact Ah Z) w;obtain⟨i,hi,X⟩:=Option.map_eq_some_iff.1 R;have Y:0<=(k:Int)/\(k:Int)<(n:Int):=Aa
 unfold Instr.index
 simp only[Sem.run_bind,asIntOf,Sem.run_pure,Result.andThen_ok,run_underlying N,Y,and_self,if_true,sizeOf,typeInfo,run_program,hi,X,Int.toNat_natCast,O]
def Z5(f:Nat->Bool)(m j:Nat->Int)(w:World):Calls prog 108 #[.agg (row 12 (Bo f m j))] w fun e w'=>e=.returned (.int .i64 (FH f 4))/\Below w.heap.size w w':=by
 have b:Ae (w.alloc (.cells (row 12 (Bo f m j)) 30)) w.heap.size 30 (row 12 (Bo f m j)):=Ae.new rfl
 have Z:∀k:Nat,k<4->∀w,(Instr.index 27 (.agg (row 4 fun i=>Bo f m j i)) (.int .i64 (k:Int))).run prog w=.ok (.bool (f k)) w:=fun k X w=>by
  rw[Js underlying27 underlying4 rfl Ap _ k X,EZ X]
 have U:=zz Z;clear Z
 go_in
 go_wp2_with(refine Cb rfl 27 _ rfl w.heap.size 0 4 rfl b Aa _ underlying27 rfl Ap ?_)
 clear b
 go_loop[3,8] (fun n i=>∃k:Nat,k<=4/\i=.int .i64 k/\n=.int .i64 (FH f k)) (fun _ i=>4-(intOf i).toNat)
 .exact⟨0,Aa,rfl,rfl⟩
 obtain⟨k,X,rfl,rfl⟩:=hrel;have O:=Lf f k
 by_cases Y:k<4
 .have R:=U.o k Y
  cases hf:f k
  .have V:=zz (show FH f (k+1)=FH f k by rw[FH,hf];rfl)
   rw[hf]at R;clear hf;go_wp2_with fail
   go_round
   case rel=>exact⟨k+1,Aa,BG,by rw[V.o]⟩
   case measure=>simp[intOf];omega
  have V:=zz (show FH f (k+1)=FH f k+1 by rw[FH,hf];rfl)
  rw[hf]at R;clear hf;go_wp2_with fail
  go_round
  case rel=>exact⟨k+1,Aa,BG,by rw[V.o];go_num⟩
  case measure=>simp[intOf];omega
 obtain rfl:k=4:=Aa;clear Y;go_wp2_with fail
 go_ret
 exact⟨rfl,DC⟩
def T9(f:Nat->Bool)(m j:Nat->Int)(w:World):Calls prog 93 #[.agg (row 12 (Bo f m j))] w fun e w'=>e=.returned (.int .i64 (FH f 4))/\Below w.heap.size w w':=by
 have b:Ae (w.alloc (.cells (row 12 (Bo f m j)) 30)) w.heap.size 30 (row 12 (Bo f m j)):=Ae.new rfl;have V:=zz b;clear b
 go_in
 go_wp2_with fail
 go_loop[3,4] (fun n i=>∃k:Nat,k<=4/\i=.int .i64 k/\n=.int .i64 (FH f k)) (fun _ i=>4-(intOf i).toNat)
 .exact⟨0,Aa,rfl,rfl⟩
 obtain⟨k,U,rfl,rfl⟩:=hrel;have R:=Lf f k
 by_cases Z:k<4
 .have Y:=V.o.cell k;rw[Ah Aa,EZ Z]at Y
  cases hf:f k
  .have X:=zz (show FH f (k+1)=FH f k by rw[FH,hf];rfl)
   rw[hf]at Y;clear hf;go_wp2_with fail
   go_round
   case rel=>exact⟨k+1,Aa,BG,by rw[X.o]⟩
   case measure=>simp[intOf];omega
  have X:=zz (show FH f (k+1)=FH f k+1 by rw[FH,hf];rfl)
  rw[hf]at Y;clear hf;go_wp2_with fail
  go_round
  case rel=>exact⟨k+1,Aa,BG,by rw[X.o];go_num⟩
  case measure=>simp[intOf];omega
 obtain rfl:k=4:=Aa;clear Z;go_wp2_with fail
 go_ret
 exact⟨rfl,DC⟩
def Xn(f:Nat->Bool)(m j:Nat->Int)(k:Nat):Bool:=bif f k then decide (0<=m k)&&decide (m k<=2)&&decide (j k=0)else decide (m k=0)&&decide (0<=j k)&&decide (j k<3)
def Ji(f:Nat->Bool)(m j:Nat->Int):Nat->Bool
 |0=>true
 |k+1=>Ji f m j k&&Xn f m j k
def V6{f:Nat->Bool}{m j:Nat->Int}{k:Nat}(hb:Xn f m j k=false):∀ {n:Nat},k<n->Ji f m j n=false
 |0,h=>absurd h Aa
 |n+1,h=>by
  unfold Ji
  by_cases e:k=n
  . subst e;rw[hb,Bool.and_false]
  rw[V6 hb Aa,Bool.false_and]
def pW(p:Bool)(q r:Int):Bool:=bif p then decide (0<=q)&&decide (q<=2)&&decide (r=0)else decide (q=0)&&decide (0<=r)&&decide (r<3)
def LF{f:Nat->Bool}{m j:Nat->Int}{k:Nat}{p:Bool}{q r:Int}(Y:f k=p)(hq:m k=q)(Z:j k=r):Xn f m j k=pW p q r:=by
 subst Y;subst hq;subst Z;rfl
def ZK{f:Nat->Bool}{m j:Nat->Int}{k:Nat}{p:Bool}{q r:Int}(h:Ji f m j k=true)(X:f k=p)(hq:m k=q)(Z:j k=r)(Y:pW p q r=true):Ji f m j (k+1)=true:=by
 unfold Ji;rw[h,LF X hq Z,Y];rfl
def Vr{f:Nat->Bool}{m j:Nat->Int}{k:Nat}{p:Bool}{q r:Int}(Z:k<4)(V:f k=p)(hq:m k=q)(Y:j k=r)(X:pW p q r=false):Ji f m j 4=false:=
 V6 ((LF V hq Y).trans X) Z
def Qm{q r:Int}:pW true q r=(decide (0<=q)&&decide (q<=2)&&decide (r=0)):=rfl
def Nj{q r:Int}:pW false q r=(decide (q=0)&&decide (0<=r)&&decide (r<3)):=rfl
def OX(f:Nat->Bool)(m j:Nat->Int)(w:World):Calls prog 92 #[.agg (row 12 (Bo f m j))] w fun e w'=>e=.returned (.bool (Ji f m j 4))/\Below w.heap.size w w':=by
 have b:Ae (w.alloc (.cells (row 12 (Bo f m j)) 30)) w.heap.size 30 (row 12 (Bo f m j)):=Ae.new rfl;have X:=zz b;clear b
 go_in
 go_wp2_with fail
 go_loop[3] (fun i=>∃k:Nat,k<=4/\i=.int .i64 k/\Ji f m j k=true) (fun i=>4-(intOf i).toNat)
 .exact⟨0,Aa,rfl,rfl⟩
 obtain⟨k,G,rfl,Y⟩:=hrel;have R:=zz Y;clear Y
 by_cases Z:k<4
 .have V:=X.o.cell k;have hy:=X.o.cell (4+k);have L:=X.o.cell (8+k);rw[Ah Aa,EZ Z]at V;rw[Ah Aa,EB Z]at hy;rw[Ah Aa,FC Z]at L;generalize J:f k=p at V;generalize hq:m k=q at hy;generalize U:j k=r at L;have O:=zz J;have N:=zz hq;have M:=zz U;clear J hq U
  cases p
  all_goals go_wp2_with fail
  all_goals first
   |(
     refine⟨⟨k+1,Aa,BG,ZK R.o O.o N.o M.o ?_⟩,Ck⟩
     first|rw[Qm]|rw[Nj]
     simp only[Bool.and_eq_true,decide_eq_true_eq];omega)
   |(
     go_ret
     refine⟨WL (Eq.symm (Vr Z O.o N.o M.o ?_)),DC⟩
     first|rw[Qm]|rw[Nj]
     rw[Bool.eq_false_iff];intro I;simp only[Bool.and_eq_true,decide_eq_true_eq]at I
     omega)
 obtain rfl:k=4:=Aa;clear Z;go_wp2_with fail
 go_ret
 exact⟨by rw[R.o];rfl,DC⟩
def U6(f:Nat->Bool)(m j:Nat->Int)(w:World):Calls prog 73 #[.agg (row 12 (Bo f m j))] w fun e w'=>e=.returned (.bool (Ji f m j 4))/\Below w.heap.size w w':=by
 have b:Ae (w.alloc (.cells (row 12 (Bo f m j)) 30)) w.heap.size 30 (row 12 (Bo f m j)):=Ae.new rfl;have X:=zz b;clear b
 go_in
 go_wp2_with fail
 go_loop[4] (fun i=>∃k:Nat,k<=4/\i=.int .i64 k/\Ji f m j k=true) (fun i=>4-(intOf i).toNat)
 .exact⟨0,Aa,rfl,rfl⟩
 obtain⟨k,G,rfl,Y⟩:=hrel;have R:=zz Y;clear Y
 by_cases Z:k<4
 .have V:=X.o.cell k;have hy:=X.o.cell (4+k);have L:=X.o.cell (8+k);rw[Ah Aa,EZ Z]at V;rw[Ah Aa,EB Z]at hy;rw[Ah Aa,FC Z]at L;generalize J:f k=p at V;generalize hq:m k=q at hy;generalize U:j k=r at L;have O:=zz J;have N:=zz hq;have M:=zz U;clear J hq U
  cases p
  all_goals go_wp2_with fail
  all_goals first
   |(
     refine⟨⟨k+1,Aa,BG,ZK R.o O.o N.o M.o ?_⟩,Ck⟩
     first|rw[Qm]|rw[Nj]
     simp only[Bool.and_eq_true,decide_eq_true_eq];omega)
   |(
     go_ret
     refine⟨WL (Eq.symm (Vr Z O.o N.o M.o ?_)),DC⟩
     first|rw[Qm]|rw[Nj]
     rw[Bool.eq_false_iff];intro I;simp only[Bool.and_eq_true,decide_eq_true_eq]at I
     omega)
 obtain rfl:k=4:=Aa;clear Z;go_wp2_with fail
 go_ret
 exact⟨by rw[R.o];rfl,DC⟩
end Nd
namespace Rg
section
variable {P : Program} {ops : Array Oper} {Q : Exit -> Act -> World -> Prop} {md : Region.Mode} {S T : World -> Prop} {reads : List Nat}
def pM(md:Region.Mode)(ops:Array Oper)(i:Nat):Nat->Nat->Bool
 |0,_=>false
 |f+1,j=>match ops[j]? with
  |none=>false
  |some o=>o.after.any fun e=>Region.binds md e&&(e.on==i||pM md ops i f e.on)
def Closed(md:Region.Mode)(ops:Array Oper)(L:Array Bool):Prop:=∀j o,ops[j]?=some o->L.getD j false=true->∀e∈o.after,Region.binds md e=true->L.getD e.on false=true
def Eu(md:Region.Mode)(ops:Array Oper)(L:Array Bool):Bool:=(List.range ops.size).all fun j=> !L.getD j false||((ops[j]?).map (·.after.all fun e=> !Region.binds md e||L.getD e.on false)).getD true
def OD{L:Array Bool}(h:Eu md ops L=true):Closed md ops L:=by
 intro j o X V e U hb;have R:=(Array.getElem?_eq_some_iff.1 X).1;have Z:=List.all_eq_true.1 h j (List.mem_range.2 R);rw[V,X]at Z;simp only[Bool.not_true,Bool.false_or,Option.map_some,Option.getD_some]at Z;have Y:=Array.all_eq_true_iff_forall_mem.1 Z e U;rw[hb]at Y
 simpa using Y
def QO{L:Array Bool}{i:Nat}(O:Closed md ops L):∀(f j:Nat),pM md ops i f j=true->(∀o,ops[j]?=some o->∀e∈o.after,Region.binds md e=true->L.getD e.on false=true)->L.getD i false=true
 |0,_,h,_=>by cases h
 |f+1,j,h,hj=>by
  unfold pM at h
  cases ho:ops[j]? with
  |none=>rw[ho]at h;cases h
  |some o=>
   rw[ho]at h;simp only[←Array.any_toList]at h;obtain⟨e,V,U⟩:=List.any_eq_true.1 h;have R:e∈o.after:=Array.mem_toList_iff.1 V;simp only[Bool.and_eq_true,Bool.or_eq_true,beq_iff_eq]at U;obtain⟨hb,rfl|M⟩:=U
   . exact hj o ho e R hb
   exact QO O f e.on M fun J X N Y Z=>O e.on J X (hj o ho e R hb) N Y Z
def late(md:Region.Mode)(ops:Array Oper)(reads:List Nat)(j:Nat):Bool:=reads.any fun i=>i !=j&& !pM md ops i ops.size j
def BO(P:Program)(md:Region.Mode)(ops:Array Oper)(Q:Exit->Act->World->Prop)(reads:List Nat)(S:World->Prop):Nat->Array Bool->Act->World->Prop
 |0,listed,a,w=>Region.ready md ops listed=[]/\Q .normal a w
 |fuel+1,listed,a,w=>
  (Region.ready md ops listed=[]->Q .normal a w)/\
  ∀i∈Region.ready md ops listed,wpOp P ops Q i (fun Z w'=>(late md ops reads i=true->S w->S w')/\BO P md ops Q reads S fuel (listed.setIfInBounds i true) Z w') a w
def MN:∀(Z:Nat) (Y:Array Bool) (a:Act) (w:World),BO P md ops Q reads S Z Y a w->wpAny P md ops Q Z Y a w
 |0,_,_,_,h=>h
 |Z+1,_,_,_,h=>⟨h.1,fun i hi=>wpOp_mono (fun V w' X=>MN Z _ V w' X.2) (h.2 i hi)⟩
def Yf{L:Array Bool}{j:Nat}(N:Closed md ops L)(O:j∈Region.ready md ops L):Closed md ops (L.setIfInBounds j true):=by
 obtain⟨_,oj,Y,Z⟩:=mem_ready.1 O;intro k o X U e R hb
 by_cases V:j=k
 .subst V;rw[Y]at X;obtain rfl:=Option.some.inj X;exact getD_set_true (Z e R hb)
 rw[getD_set_ne false V]at U;exact getD_set_true (N k o X U e R hb)
def Xv{i:Nat}{oi:Oper}{v:Value}(hi:ops[i]?=some oi)(hsel:∀(j:Nat) (o:Oper) cs b,ops[j]?=some o->o.op≠ .select cs b)(hQ:∀c a w,Q (.panic c) (a.put oi.dst v) w->Q (.panic c) a w)(n:(∀w,T w)\/(i∈reads/\T=S)):
  ∀(X:Nat) (Z:Array Bool) (a:Act) (w:World),Closed md ops Z->
   (∀j oj,ops[j]?=some oj->j≠i->Z.getD j true=false->(∀e∈oj.after,Region.binds md e=true->e.on≠i)->oi.apart ops oj=true)->
   i∈Region.ready md ops Z->YieldsIf P ops T oi v a->T w->
   BO P md ops Q reads S X (Z.setIfInBounds i true) (a.put oi.dst v) w->BO P md ops Q reads S (X+1) Z a w:=by
 intro X
 induction X with
 |zero=>
  intro Z a w _ _ J hy u H;refine⟨fun h=>(by rw[h]at J;cases J),fun j x=>?_⟩
  by_cases Y:j=i
  . subst Y;exact hy.wpOp hi u ⟨fun _ h=>h,H⟩
  .have:=ready_mono x Y;rw[H.1]at this
   cases this
 |succ X ih=>
  intro Z a w m R J hy u H;refine⟨fun h=>(by rw[h]at J;cases J),fun j x=>?_⟩
  by_cases Y:j=i
  . subst Y;exact hy.wpOp hi u ⟨fun _ h=>h,H⟩
  have G:=H.2 j (ready_mono x Y);obtain⟨M,oj,N,L⟩:=mem_ready.1 x;have V:=(mem_ready.1 J).1
  have D:∀e∈oj.after,Region.binds md e=true->e.on≠i:=fun e r hb s=>by
   have G:=L e r hb;rw[s]at G
   rcases Nat.lt_or_ge i Z.size with F|F
   . simp[F]at V G;rw[V]at G;cases G
   simp[Array.getElem?_eq_none F]at G
  have I:i∈reads->late md ops reads j=true:=fun U=>by
   refine List.any_eq_true.2 ⟨i,U,?_⟩;rw[Bool.and_eq_true];refine⟨by simpa using Ne.symm Y,?_⟩
   cases ha:pM md ops i ops.size j
   . rfl
   have E:=QO m _ _ ha fun o l e r hb=>by rw[N]at l;obtain rfl:=Option.some.inj l;exact L e r hb
   rcases Nat.lt_or_ge i Z.size with F|F
   . simp[F]at V E;rw[V]at E;cases E
   simp[Array.getElem?_eq_none F]at E
  have E:=wpOp_putIf N (R j oj N Y M D) (fun cs b=>hsel i oi cs b hi) (fun cs b=>hsel j oj cs b N) hQ hy G
  have O:∀k C,ops[k]?=some C->k≠i->(Z.setIfInBounds j true).getD k true=false->
    (∀e∈C.after,Region.binds md e=true->e.on≠i)->oi.apart ops C=true:=fun k C g p y q=>by
   refine R k C g p ?_ q
   by_cases z:j=k
   . subst z;exact M
   rw[getD_set_ne true z]at y;exact y
  refine wpOp_mono (fun f w' t=>⟨t.2.1,ih (Z.setIfInBounds j true) f w' (Yf m x) O (ready_mono J (Ne.symm Y)) t.1 ?_ ?_⟩) E
  .rcases n with n|⟨U,rfl⟩
   . exact n _
   exact t.2.1 (I U) u
  rw[Array.setIfInBounds_comm _ _ Y];exact t.2.2
def ZE{i:Nat}{oi:Oper}{v:Value}{Y:Nat}{Z:Array Bool}{a:Act}{w:World}(hi:ops[i]?=some oi)(hs:(Region.noSelect ops&&Region.free md ops Z i&&(Region.ready md ops Z).contains i&&Eu md ops Z)=true)(hQ:∀c a w,Q (.panic c) (a.put oi.dst v) w->Q (.panic c) a w)(hw:Region.wanted oi (yielded ops a.tmps)=true)(hy:∀w,(execOp a.eval oi).run P w=.ok (.value v) w)(h:BO P md ops Q reads S Y (Z.setIfInBounds i true) (a.put oi.dst v) w):BO P md ops Q reads S (Y+1) Z a w:=by
 simp only[Bool.and_eq_true]at hs;obtain⟨⟨⟨U,V⟩,R⟩,X⟩:=hs;exact Xv (T:=fun _=>True) hi (Region.noSelect_spec U) hQ (.inl fun _=>trivial) Y Z a w (OD X) (Region.free_spec hi V) (by simpa using R) (.inl ⟨hw,fun w _=>hy w⟩) trivial h
def takeN{i:Nat}{oi:Oper}{Y:Nat}{Z:Array Bool}{a:Act}{w:World}(hi:ops[i]?=some oi)(hs:(Region.noSelect ops&&Region.free md ops Z i&&(Region.ready md ops Z).contains i&&Eu md ops Z)=true)(hQ:∀c a w,Q (.panic c) (a.put oi.dst undef) w->Q (.panic c) a w)(hw:Region.wanted oi (yielded ops a.tmps)=false)(h:BO P md ops Q reads S Y (Z.setIfInBounds i true) (a.put oi.dst undef) w):BO P md ops Q reads S (Y+1) Z a w:=by
 simp only[Bool.and_eq_true]at hs;obtain⟨⟨⟨U,V⟩,R⟩,X⟩:=hs;exact Xv (T:=fun _=>True) hi (Region.noSelect_spec U) hQ (.inl fun _=>trivial) Y Z a w (OD X) (Region.free_spec hi V) (by simpa using R) (.inr ⟨hw,rfl⟩) trivial h
def Sn{i:Nat}{oi:Oper}{v:Value}{Y:Nat}{Z:Array Bool}{a:Act}{w:World}(hi:ops[i]?=some oi)(hs:(Region.noSelect ops&&Region.free md ops Z i&&(Region.ready md ops Z).contains i&&Eu md ops Z&&reads.contains i)=true)(hQ:∀c a w,Q (.panic c) (a.put oi.dst v) w->Q (.panic c) a w)(hw:Region.wanted oi (yielded ops a.tmps)=true)(hS:S w)(hy:∀w,S w->(execOp a.eval oi).run P w=.ok (.value v) w)(h:BO P md ops Q reads S Y (Z.setIfInBounds i true) (a.put oi.dst v) w):BO P md ops Q reads S (Y+1) Z a w:=by
 simp only[Bool.and_eq_true]at hs;obtain⟨⟨⟨⟨R,U⟩,O⟩,X⟩,V⟩:=hs;exact Xv (T:=S) hi (Region.noSelect_spec R) hQ (.inr ⟨by simpa using V,rfl⟩) Y Z a w (OD X) (Region.free_spec hi U) (by simpa using O) (.inl ⟨hw,hy⟩) hS h
def tp(i:Nat)(oi:Oper){v:Value}{Y:Nat}{Z:Array Bool}{a:Act}{w:World}(hi:ops[i]?=some oi)(hy:∀w,(execOp a.eval oi).run P w=.ok (.value v) w)(h:BO P md ops Q reads S Y (Z.setIfInBounds i true) (a.put oi.dst v) w)(hs:(Region.noSelect ops&&Region.free md ops Z i&&(Region.ready md ops Z).contains i&&Eu md ops Z)=true:=by kernel_rfl)(hQ:∀c a w,Q (.panic c) (a.put oi.dst v) w->Q (.panic c) a w:=by exact fun _ _ _ h=>h)(hw:Region.wanted oi (yielded ops a.tmps)=true:=by rfl):BO P md ops Q reads S (Y+1) Z a w:=ZE hi hs hQ hw hy h
def tn(i:Nat)(oi:Oper){Y:Nat}{Z:Array Bool}{a:Act}{w:World}(hi:ops[i]?=some oi)(h:BO P md ops Q reads S Y (Z.setIfInBounds i true) (a.put oi.dst undef) w)(hs:(Region.noSelect ops&&Region.free md ops Z i&&(Region.ready md ops Z).contains i&&Eu md ops Z)=true:=by kernel_rfl)(hQ:∀c a w,Q (.panic c) (a.put oi.dst undef) w->Q (.panic c) a w:=by exact fun _ _ _ h=>h)(hw:Region.wanted oi (yielded ops a.tmps)=false:=by rfl):BO P md ops Q reads S (Y+1) Z a w:=takeN hi hs hQ hw h
def tq(i:Nat)(oi:Oper){v:Value}{Y:Nat}{Z:Array Bool}{a:Act}{w:World}(hi:ops[i]?=some oi)(h:BO P md ops Q reads S Y (Z.setIfInBounds i true) (a.put oi.dst v) w)(hy:∀w,(execOp a.eval oi).run P w=.ok (.value v) w:=by intro w;go_simp;(try with_reducible rfl))(hs:(Region.noSelect ops&&Region.free md ops Z i&&(Region.ready md ops Z).contains i&&Eu md ops Z)=true:=by kernel_rfl)(hQ:∀c a w,Q (.panic c) (a.put oi.dst v) w->Q (.panic c) a w:=by exact fun _ _ _ h=>h)(hw:Region.wanted oi (yielded ops a.tmps)=true:=by rfl):BO P md ops Q reads S (Y+1) Z a w:=ZE hi hs hQ hw hy h
def tr(i:Nat)(oi:Oper){v:Value}{Y:Nat}{Z:Array Bool}{a:Act}{w:World}(hi:ops[i]?=some oi)(hS:S w)(h:BO P md ops Q reads S Y (Z.setIfInBounds i true) (a.put oi.dst v) w)(hy:∀w,S w->(execOp a.eval oi).run P w=.ok (.value v) w:=by intro w X;(try dsimp only at X);(try go_split_ands);go_simp;(try with_reducible rfl))(hs:(Region.noSelect ops&&Region.free md ops Z i&&(Region.ready md ops Z).contains i&&Eu md ops Z&&reads.contains i)=true:=by kernel_rfl)(hQ:∀c a w,Q (.panic c) (a.put oi.dst v) w->Q (.panic c) a w:=by exact fun _ _ _ h=>h)(hw:Region.wanted oi (yielded ops a.tmps)=true:=by rfl):BO P md ops Q reads S (Y+1) Z a w:=Sn hi hs hQ hw hS hy h
def ts(i:Nat)(oi:Oper){v:Value}{Y:Nat}{Z:Array Bool}{a:Act}{w:World}(hi:ops[i]?=some oi)(hS:S w)(hy:∀w,S w->(execOp a.eval oi).run P w=.ok (.value v) w)(h:BO P md ops Q reads S Y (Z.setIfInBounds i true) (a.put oi.dst v) w)(hs:(Region.noSelect ops&&Region.free md ops Z i&&(Region.ready md ops Z).contains i&&Eu md ops Z&&reads.contains i)=true:=by kernel_rfl)(hQ:∀c a w,Q (.panic c) (a.put oi.dst v) w->Q (.panic c) a w:=by exact fun _ _ _ h=>h)(hw:Region.wanted oi (yielded ops a.tmps)=true:=by rfl):BO P md ops Q reads S (Y+1) Z a w:=Sn hi hs hQ hw hS hy h
def GV(P:Program)(md:Region.Mode)(ops:Array Oper)(Q:Exit->Act->World->Prop)(reads:List Nat)(S:World->Prop)(Y:Nat)(Z:Array Bool)(i:Nat)(oi:Oper)(a:Act)(w:World):Prop:=
 ∀X:Act->World->Prop,(∀a w',(late md ops reads i=true->S w->S w')->BO P md ops Q reads S Y (Z.setIfInBounds i true) a w'->X a w')->if Region.wanted oi (yielded ops a.tmps)=true then Oper.wp P oi a w X Q else X (a.put oi.dst undef) w
def nV{i:Nat}{oi:Oper}{Y:Nat}{Z:Array Bool}{a:Act}{w:World}(hi:ops[i]?=some oi)(hr:Region.ready md ops Z=[i])(h:GV P md ops Q reads S Y Z i oi a w):BO P md ops Q reads S (Y+1) Z a w:=
 ⟨fun V=>absurd (hr▸V) Bq,fun j X=>by
  rw[hr]at X
  obtain rfl:j=i:=by simpa using X
  exact wpOp_step hi fun O hK=>h O fun a w' R U=>hK a w' ⟨R,U⟩⟩
def qP(i:Nat)(oi:Oper){Y:Nat}{Z:Array Bool}{a:Act}{w:World}(hi:ops[i]?=some oi)(h:GV P md ops Q reads S Y Z i oi a w)(hr:Region.ready md ops Z=[i]:=by kernel_rfl):BO P md ops Q reads S (Y+1) Z a w:=nV hi hr h
def XY{i j:Nat}{oi oj:Oper}{Y:Nat}{Z:Array Bool}{a:Act}{w:World}(O:Region.ready md ops Z=[i,j])(hi:ops[i]?=some oi)(hj:ops[j]?=some oj)(V:GV P md ops Q reads S Y Z i oi a w)(X:GV P md ops Q reads S Y Z j oj a w):BO P md ops Q reads S (Y+1) Z a w:=
 ⟨fun N=>absurd (O▸N) Bq,fun k U=>by
  rw[O]at U
  rcases List.mem_cons.1 U with rfl|U
  . exact wpOp_step hi fun R hK=>V R fun a w' V X=>hK a w' ⟨V,X⟩
  obtain rfl:k=j:=by simpa using U
  exact wpOp_step hj fun R hK=>X R fun a w' V X=>hK a w' ⟨V,X⟩⟩
def AX{i:Nat}{oi:Oper}{Y:Nat}{Z:Array Bool}{a:Act}{w:World}(R:late md ops reads i=false)(h:∀X:Act->World->Prop,Shut (∀a w',BO P md ops Q reads S Y (Z.setIfInBounds i true) a w'->X a w')->if Region.wanted oi (yielded ops a.tmps)=true then Oper.wp P oi a w X Q else X (a.put oi.dst undef) w):
  GV P md ops Q reads S Y Z i oi a w:=
 fun X hK=>h X fun a w' U=>hK a w' (fun V=>absurd (R.symm.trans V) Bq) U
def Bt{i:Nat}{oi:Oper}{Y:Nat}{Z:Array Bool}{a:Act}{w:World}(h:∀X:Act->World->Prop,Shut (∀a w',S w'->BO P md ops Q reads S Y (Z.setIfInBounds i true) a w'->X a w')->if Region.wanted oi (yielded ops a.tmps)=true then Oper.wp P oi a w X Q else X (a.put oi.dst undef) w):
  GV P md ops Q reads S Y Z i oi a w:=
 fun X hK=>h X fun a w' U V=>hK a w' (fun _ _=>U) V
def _root_.Go.Shut.o{p:Prop}(h:Shut p):p:=h
def lq:(∀(t:Array Value) (l:List Deferred) (d:Tmp) (v:Value),Act.put ⟨t,l⟩ (some d) v=⟨t.setIfInBounds d v,l⟩)/\(∀(t:Array Value) (l:List Deferred) (v:Value),Act.put ⟨t,l⟩ none v=⟨t,l⟩)/\(∀ {α:Type} (l:List α) (i:Nat) (v:α),l.toArray.setIfInBounds i v=(l.set i v).toArray)/\(∀ {α:Type} (a b:α) (l:List α),(b::l).set 0 a=a::l)/\(∀ {α:Type} (a b:α) (l:List α) (n:Nat),(b::l).set (n+1) a=b::l.set n a):=⟨fun _ _ _ _=>rfl,fun _ _ _=>rfl,fun _ _ _=>List.setIfInBounds_toArray ..,fun _ _ _=>rfl,fun _ _ _ _=>rfl⟩
def gt:List Oper->Nat->Option Oper
  |a::_,0=>some a
  |_::l,n+1=>gt l n
  |[],_=>none
def nG:∀(l:List Oper) (i:Nat) {o:Oper},gt l i=some o->l[i]?=some o
  |[],_,_,h=>by cases h
  |_::_,0,_,h=>h
  |_::l,n+1,_,h=>nG l n h
def Gs{i:Nat}{o:Oper}(h:gt ops.toList i=some o):ops[i]?=some o:=by
  have:=nG _ _ h
  rwa[Array.getElem?_toList]at this
def Ac(i:Nat){oi:Oper}{v:Value}{Y:Nat}{Z l2:Array Bool}{a a2:Act}{w:World}(h:BO P md ops Q reads S Y l2 a2 w)(hi:gt ops.toList i=some oi:=by rfl)(hy:∀w,(execOp a.eval oi).run P w=.ok (.value v) w:=by intro w;go_simp;(try with_reducible rfl))(hl:Z.setIfInBounds i true=l2:=by(try simp only[Rg.lq]);rfl)(ha:a.put oi.dst v=a2:=by(try simp only[Rg.lq]);rfl)(hs:(Region.noSelect ops&&Region.free md ops Z i&&(Region.ready md ops Z).contains i&&Eu md ops Z)=true:=by kernel_rfl)(hQ:∀c a w,Q (.panic c) (a.put oi.dst v) w->Q (.panic c) a w:=by exact fun _ _ _ h=>h)(hw:Region.wanted oi (yielded ops a.tmps)=true:=by rfl):BO P md ops Q reads S (Y+1) Z a w:=ZE (Gs hi) hs hQ hw hy (hl▸ha▸h)
def DN(i:Nat){oi:Oper}{Y:Nat}{Z l2:Array Bool}{a a2:Act}{w:World}(h:BO P md ops Q reads S Y l2 a2 w)(hi:gt ops.toList i=some oi:=by rfl)(X:Z.setIfInBounds i true=l2:=by(try simp only[Rg.lq]);rfl)(V:a.put oi.dst undef=a2:=by(try simp only[Rg.lq]);rfl)(hs:(Region.noSelect ops&&Region.free md ops Z i&&(Region.ready md ops Z).contains i&&Eu md ops Z)=true:=by kernel_rfl)(hQ:∀c a w,Q (.panic c) (a.put oi.dst undef) w->Q (.panic c) a w:=by exact fun _ _ _ h=>h)(hw:Region.wanted oi (yielded ops a.tmps)=false:=by rfl):BO P md ops Q reads S (Y+1) Z a w:=takeN (Gs hi) hs hQ hw (X▸V▸h)
def Bc(i:Nat){oi:Oper}{v:Value}{Y:Nat}{Z l2:Array Bool}{a a2:Act}{w:World}(V:S w)(h:BO P md ops Q reads S Y l2 a2 w)(hi:gt ops.toList i=some oi:=by rfl)(hy:∀w,S w->(execOp a.eval oi).run P w=.ok (.value v) w:=by intro w X;(try dsimp only at X);(try go_split_ands);go_simp;(try with_reducible rfl))(hl:Z.setIfInBounds i true=l2:=by(try simp only[Rg.lq]);rfl)(ha:a.put oi.dst v=a2:=by(try simp only[Rg.lq]);rfl)(hs:(Region.noSelect ops&&Region.free md ops Z i&&(Region.ready md ops Z).contains i&&Eu md ops Z&&reads.contains i)=true:=by kernel_rfl)(hQ:∀c a w,Q (.panic c) (a.put oi.dst v) w->Q (.panic c) a w:=by exact fun _ _ _ h=>h)(hw:Region.wanted oi (yielded ops a.tmps)=true:=by rfl):BO P md ops Q reads S (Y+1) Z a w:=Sn (Gs hi) hs hQ hw V hy (hl▸ha▸h)
def Ba(i:Nat)(v:Value){oi:Oper}{Y:Nat}{Z l2:Array Bool}{a a2:Act}{w:World}(X:S w)(hi:gt ops.toList i=some oi:=by rfl)(hy:∀w,S w->(execOp a.eval oi).run P w=.ok (.value v) w)(h:BO P md ops Q reads S Y l2 a2 w)(hl:Z.setIfInBounds i true=l2:=by(try simp only[Rg.lq]);rfl)(ha:a.put oi.dst v=a2:=by(try simp only[Rg.lq]);rfl)(hs:(Region.noSelect ops&&Region.free md ops Z i&&(Region.ready md ops Z).contains i&&Eu md ops Z&&reads.contains i)=true:=by kernel_rfl)(hQ:∀c a w,Q (.panic c) (a.put oi.dst v) w->Q (.panic c) a w:=by exact fun _ _ _ h=>h)(hw:Region.wanted oi (yielded ops a.tmps)=true:=by rfl):BO P md ops Q reads S (Y+1) Z a w:=Sn (Gs hi) hs hQ hw X hy (hl▸ha▸h)
def Aw(i:Nat){oi:Oper}{Y:Nat}{Z l2:Array Bool}{a a2:Act}{w:World}(h:GV P md ops Q reads S Y l2 i oi a2 w)(hi:gt ops.toList i=some oi:=by rfl)(X:Z=l2:=by(try simp only[Rg.lq]);rfl)(U:a=a2:=by(try simp only[Rg.lq]);rfl)(V:Region.ready md ops Z=[i]:=by kernel_rfl):BO P md ops Q reads S (Y+1) Z a w:=by
  subst X;subst U;exact nV (Gs hi) V h
def qx(i j:Nat){oi oj:Oper}{Y:Nat}{Z:Array Bool}{a:Act}{w:World}(U:GV P md ops Q reads S Y Z i oi a w)(V:GV P md ops Q reads S Y Z j oj a w)(hi:gt ops.toList i=some oi:=by rfl)(R:gt ops.toList j=some oj:=by rfl)(X:Region.ready md ops Z=[i,j]:=by kernel_rfl):BO P md ops Q reads S (Y+1) Z a w:=XY X (Gs hi) (Gs R) U V
def qf(i j l:Nat){oi oj ol:Oper}{Y:Nat}{Z:Array Bool}{a:Act}{w:World}(V:GV P md ops Q reads S Y Z i oi a w)(X:GV P md ops Q reads S Y Z j oj a w)(M:GV P md ops Q reads S Y Z l ol a w)(hi:gt ops.toList i=some oi:=by rfl)(J:gt ops.toList j=some oj:=by rfl)(L:gt ops.toList l=some ol:=by rfl)(O:Region.ready md ops Z=[i,j,l]:=by kernel_rfl):BO P md ops Q reads S (Y+1) Z a w:=
  ⟨fun N=>absurd (O▸N) Bq,fun k U=>by
    rw[O]at U
    rcases List.mem_cons.1 U with rfl|U
    . exact wpOp_step (Gs hi) fun R hK=>V R fun a w' V X=>hK a w' ⟨V,X⟩
    rcases List.mem_cons.1 U with rfl|U
    . exact wpOp_step (Gs J) fun R hK=>X R fun a w' V X=>hK a w' ⟨V,X⟩
    obtain rfl:k=l:=by simpa using U
    exact wpOp_step (Gs L) fun R hK=>M R fun a w' V X=>hK a w' ⟨V,X⟩⟩
def BJ(i:Nat){oi:Oper}{v:Value}{Y:Nat}{Z l2:Array Bool}{a a2:Act}{w:World}(h:BO P md ops Q reads S Y l2 a2 w)(X:(Region.noSelect ops&&Region.free md ops Z i&&(Region.ready md ops Z).contains i&&Eu md ops Z)=true:=by decide+kernel)(hi:gt ops.toList i=some oi:=by rfl)(hy:∀w,(execOp a.eval oi).run P w=.ok (.value v) w:=by intro w;go_simp;(try with_reducible rfl))(hl:Z.setIfInBounds i true=l2:=by(try simp only[Rg.lq]);rfl)(ha:a.put oi.dst v=a2:=by(try simp only[Rg.lq]);rfl)(hQ:∀c a w,Q (.panic c) (a.put oi.dst v) w->Q (.panic c) a w:=by exact fun _ _ _ h=>h)(hw:Region.wanted oi (yielded ops a.tmps)=true:=by rfl):BO P md ops Q reads S (Y+1) Z a w:=ZE (Gs hi) X hQ hw hy (hl▸ha▸h)
def qB(i:Nat){oi:Oper}{Y:Nat}{Z l2:Array Bool}{a a2:Act}{w:World}(h:BO P md ops Q reads S Y l2 a2 w)(U:(Region.noSelect ops&&Region.free md ops Z i&&(Region.ready md ops Z).contains i&&Eu md ops Z)=true:=by decide+kernel)(hi:gt ops.toList i=some oi:=by rfl)(X:Z.setIfInBounds i true=l2:=by(try simp only[Rg.lq]);rfl)(V:a.put oi.dst undef=a2:=by(try simp only[Rg.lq]);rfl)(hQ:∀c a w,Q (.panic c) (a.put oi.dst undef) w->Q (.panic c) a w:=by exact fun _ _ _ h=>h)(hw:Region.wanted oi (yielded ops a.tmps)=false:=by rfl):BO P md ops Q reads S (Y+1) Z a w:=takeN (Gs hi) U hQ hw (X▸V▸h)
def fK(i:Nat){oi:Oper}{v:Value}{Y:Nat}{Z l2:Array Bool}{a a2:Act}{w:World}(V:S w)(h:BO P md ops Q reads S Y l2 a2 w)(U:(Region.noSelect ops&&Region.free md ops Z i&&(Region.ready md ops Z).contains i&&Eu md ops Z&&reads.contains i)=true:=by decide+kernel)(hi:gt ops.toList i=some oi:=by rfl)(hy:∀w,S w->(execOp a.eval oi).run P w=.ok (.value v) w:=by intro w X;(try dsimp only at X);(try go_split_ands);go_simp;(try with_reducible rfl))(hl:Z.setIfInBounds i true=l2:=by(try simp only[Rg.lq]);rfl)(ha:a.put oi.dst v=a2:=by(try simp only[Rg.lq]);rfl)(hQ:∀c a w,Q (.panic c) (a.put oi.dst v) w->Q (.panic c) a w:=by exact fun _ _ _ h=>h)(hw:Region.wanted oi (yielded ops a.tmps)=true:=by rfl):BO P md ops Q reads S (Y+1) Z a w:=Sn (Gs hi) U hQ hw V hy (hl▸ha▸h)
def KO(i:Nat)(v:Value){oi:Oper}{Y:Nat}{Z l2:Array Bool}{a a2:Act}{w:World}(X:S w)(V:(Region.noSelect ops&&Region.free md ops Z i&&(Region.ready md ops Z).contains i&&Eu md ops Z&&reads.contains i)=true:=by decide+kernel)(hi:gt ops.toList i=some oi:=by rfl)(hy:∀w,S w->(execOp a.eval oi).run P w=.ok (.value v) w)(h:BO P md ops Q reads S Y l2 a2 w)(hl:Z.setIfInBounds i true=l2:=by(try simp only[Rg.lq]);rfl)(ha:a.put oi.dst v=a2:=by(try simp only[Rg.lq]);rfl)(hQ:∀c a w,Q (.panic c) (a.put oi.dst v) w->Q (.panic c) a w:=by exact fun _ _ _ h=>h)(hw:Region.wanted oi (yielded ops a.tmps)=true:=by rfl):BO P md ops Q reads S (Y+1) Z a w:=Sn (Gs hi) V hQ hw X hy (hl▸ha▸h)
def EG(i j:Nat){oi oj:Oper}{Y:Nat}{Z:Array Bool}{a:Act}{w:World}(U:GV P md ops Q reads S Y Z i oi a w)(V:GV P md ops Q reads S Y Z j oj a w)(X:Region.ready md ops Z=[i,j]:=by decide+kernel)(hi:gt ops.toList i=some oi:=by rfl)(R:gt ops.toList j=some oj:=by rfl):BO P md ops Q reads S (Y+1) Z a w:=XY X (Gs hi) (Gs R) U V
def Uf(i j l:Nat){oi oj ol:Oper}{Y:Nat}{Z:Array Bool}{a:Act}{w:World}(V:GV P md ops Q reads S Y Z i oi a w)(X:GV P md ops Q reads S Y Z j oj a w)(M:GV P md ops Q reads S Y Z l ol a w)(O:Region.ready md ops Z=[i,j,l]:=by decide+kernel)(hi:gt ops.toList i=some oi:=by rfl)(J:gt ops.toList j=some oj:=by rfl)(L:gt ops.toList l=some ol:=by rfl):BO P md ops Q reads S (Y+1) Z a w:=
  ⟨fun N=>absurd (O▸N) Bq,fun k U=>by
    rw[O]at U
    rcases List.mem_cons.1 U with rfl|U
    . exact wpOp_step (Gs hi) fun R hK=>V R fun a w' V X=>hK a w' ⟨V,X⟩
    rcases List.mem_cons.1 U with rfl|U
    . exact wpOp_step (Gs J) fun R hK=>X R fun a w' V X=>hK a w' ⟨V,X⟩
    obtain rfl:k=l:=by simpa using U
    exact wpOp_step (Gs L) fun R hK=>M R fun a w' V X=>hK a w' ⟨V,X⟩⟩
def DR(i:Nat){oi:Oper}{Y:Nat}{Z:Array Bool}{a:Act}{w:World}(h:GV P md ops Q reads S Y Z i oi a w)(X:Region.ready md ops Z=[i]:=by decide+kernel)(hi:gt ops.toList i=some oi:=by rfl):BO P md ops Q reads S (Y+1) Z a w:=nV (Gs hi) X h
def Bg{Z:Array Bool}{a:Act}{w:World}(X:Region.ready md ops Z=[])(h:Q .normal a w):∀Y,BO P md ops Q reads S Y Z a w
 |0=>⟨X,h⟩
 |_+1=>⟨fun _=>h,by rw[X];simp⟩
def A8{id:Nat}{a:Act}{w:World}(reads:List Nat)(S:World->Prop)(Z:P.follows .mixedOrders=true)(h:BO P .any ops Q reads S ops.size (Array.replicate ops.size false) a w.drew):(Code.region id ops true).wp P Q a w:=
 wp_region_any Z (MN _ _ _ _ h)
end
end Rg
namespace Mem
open Go.RowKit
section
variable {P : Program}
def isRow(P:Program)(ty:TypeId)(cs:Array Value):Prop:=(match P.underlying ty with|some (.struct _)|some (.array _ _)=>true|_=>false)=true/\(P.info? ty).map (·.size)=some cs.size
def LV{w:World}{ty:TypeId}{g:Nat}{t:TypeId}{cs:Array Value}(Y:Ae w g t cs)(X:isRow P ty cs):(loadVar ty ⟨g,0,none⟩).run P w=.ok (.agg cs) w:=by
 obtain⟨Z,V⟩:=X
 cases hu:P.underlying ty with
 |none=>rw[hu]at Z;cases Z
 |some d=>exact run_loadVar_row w g t ty cs (0,0) d Y hu (by rw[hu]at Z;cases d<;>first|rfl|cases Z) V
def results_cell_tmp{Y:Func}{p u:Tmp}{ty:TypeId}(h:Y.results=#[.cell p ty,.tmp u])(tmps:Array Value)(w:World){g:Nat}{t:TypeId}{cs:Array Value}(hp:tmps.getD p undef=.pointer (some ⟨g,0,none⟩))(hg:Ae w g t cs)(hr:isRow P ty cs):
  (results Y tmps).run P w=.ok (.tuple #[.agg cs,tmps.getD u undef]) w:=by
 have Z:tmps[p]?.getD undef=.pointer (some ⟨g,0,none⟩):=by simpa using hp
 simp[results,h,Z,asAddr,LV hg hr]
def ND{Y:Func}{p u v:Tmp}{ty:TypeId}(h:Y.results=#[.cell p ty,.tmp u,.tmp v])(tmps:Array Value)(w:World){g:Nat}{t:TypeId}{cs:Array Value}(hp:tmps.getD p undef=.pointer (some ⟨g,0,none⟩))(hg:Ae w g t cs)(hr:isRow P ty cs):
  (results Y tmps).run P w=.ok (.tuple #[.agg cs,tmps.getD u undef,tmps.getD v undef]) w:=by
 have Z:tmps[p]?.getD undef=.pointer (some ⟨g,0,none⟩):=by simpa using hp
 simp[results,h,Z,asAddr,LV hg hr]
def Nt{X:Func}{p q:Tmp}{ty Y:TypeId}(h:X.results=#[.cell p ty,.cell q Y])(tmps:Array Value)(w:World){g g':Nat}{t t':TypeId}{cs Z:Array Value}(hp:tmps.getD p undef=.pointer (some ⟨g,0,none⟩))(hg:Ae w g t cs)(hr:isRow P ty cs)(hp':tmps.getD q undef=.pointer (some ⟨g',0,none⟩))(hg':Ae w g' t' Z)(hr':isRow P Y Z):
  (results X tmps).run P w=.ok (.tuple #[.agg cs,.agg Z]) w:=by
 have U:tmps[p]?.getD undef=.pointer (some ⟨g,0,none⟩):=by simpa using hp
 have V:tmps[q]?.getD undef=.pointer (some ⟨g',0,none⟩):=by simpa using hp'
 simp[results,h,U,V,asAddr,LV hg hr,LV hg' hr']
def Ci{Z:Func}{R:Ending->World->Prop}{a:Act}{w:World}{p u:Tmp}{ty:TypeId}(h:Z.results=#[.cell p ty,.tmp u]){g:Nat}{t:TypeId}{cs:Array Value}{x:Value}(hp:a.tmps.getD p undef=.pointer (some ⟨g,0,none⟩))(hx:a.tmps.getD u undef=x)(hg:Ae w g t cs)(hr:isRow P ty cs)(hdf:a.defers=[])(hR:R (.returned (.tuple #[.agg cs,x])) w):bodyPost P Z R .ret a w:=
 bodyPost_ret (results_cell_tmp h a.tmps w hp hg hr) hdf (by rw[hx];exact hR)
def CR{Z:Func}{R:Ending->World->Prop}{a:Act}{w:World}{p u v:Tmp}{ty:TypeId}(h:Z.results=#[.cell p ty,.tmp u,.tmp v]){g:Nat}{t:TypeId}{cs:Array Value}{x y:Value}(hp:a.tmps.getD p undef=.pointer (some ⟨g,0,none⟩))(hx:a.tmps.getD u undef=x)(hy:a.tmps.getD v undef=y)(hg:Ae w g t cs)(hr:isRow P ty cs)(hdf:a.defers=[])(hR:R (.returned (.tuple #[.agg cs,x,y])) w):bodyPost P Z R .ret a w:=
 bodyPost_ret (ND h a.tmps w hp hg hr) hdf (by rw[hx,hy];exact hR)
def Da{X:Func}{R:Ending->World->Prop}{a:Act}{w:World}{p q:Tmp}{ty Y:TypeId}(h:X.results=#[.cell p ty,.cell q Y]){g g':Nat}{t t':TypeId}{cs Z:Array Value}(hp:a.tmps.getD p undef=.pointer (some ⟨g,0,none⟩))(hp':a.tmps.getD q undef=.pointer (some ⟨g',0,none⟩))(hg:Ae w g t cs)(hr:isRow P ty cs)(hg':Ae w g' t' Z)(hr':isRow P Y Z)(hdf:a.defers=[])(hR:R (.returned (.tuple #[.agg cs,.agg Z])) w):bodyPost P X R .ret a w:=
 bodyPost_ret (Nt h a.tmps w hp hg hr hp' hg' hr') hdf hR
end
end Mem
namespace Nd
open Go.RowKit Mem Rws
def pO(k j:Nat):Value:=if j/7<k then Fj (j%7)else if j%7=5 then .bool false else .int .i64 0
def eB(id Z Y X V:Int)(i:Nat):Value:=
 if i=0 then .int .i64 id else if i=2 then .int .i64 Z else if i=3 then .int .i64 Y else if i=4 then .int .i64 X else if i=5 then .int .i64 V
 else if i=72 then .bool false else if i=73 then .slice none 0 0 else .int .i64 0
def Cq(id Z Y X V:Int)(k i:Nat):Value:=
 if 6<=i/\i<27 then pO k (i-6)else if 27<=i/\i<39 then Je (i-27)else eB id Z Y X V i
def JM(i:Nat):Value:=if i=11\/i=18\/i=25\/i=27\/i=28\/i=29\/i=30\/i=72 then .bool false else if i=73 then .slice none 0 0 else .int .i64 0
def TB(w:World):Calls prog 63 #[.int .i64 0] w fun e w'=>e=.returned (.agg (row 7 Fj))/\Below w.heap.size w w':=by
 go_in
 go_wp2
 refine bodyPost_ret (v:=.agg (row 7 Fj)) (by simp[results,Tryz.results63,go_sem];rfl) rfl ⟨rfl,?_⟩;exact(DC).alloc Bq _
def IL:zeroCells37=row 74 JM:=Ap
def QK(id Z Y X V:Int):Array.foldl (fun cs x=>cs.setIfInBounds (27+x.snd) x.fst)
        (((((zeroCells37.setIfInBounds 0 (Value.int IntKind.i64 id)).setIfInBounds 2
               (Value.int IntKind.i64 Z)).setIfInBounds
             3 (Value.int IntKind.i64 Y)).setIfInBounds
           4 (Value.int IntKind.i64 X)).setIfInBounds
         5 (Value.int IntKind.i64 V))
        (row 12 Je).zipIdx 0 12=row 74 (Cq id Z Y X V 0):=Ap
def MK(i:Nat):(Fj i).oneCell'=true:=by unfold Fj;(repeat' split)<;>rfl
def bZ(i:Nat):(Je i).oneCell'=true:=by unfold Je;split<;>rfl
def lC(k i:Nat):(pO k i).oneCell'=true:=by
 unfold pO
 split
 . exact MK _
 split<;>rfl
def aQ(id Z Y X V:Int)(i:Nat):(eB id Z Y X V i).oneCell'=true:=by unfold eB;(repeat' split)<;>rfl
def FP(id Z Y X V:Int)(k i:Nat):(Cq id Z Y X V k i).oneCell'=true:=by
 unfold Cq
 split
 . exact lC _ _
 split
 . exact bZ _
 exact aQ _ _ _ _ _ _
def Rh(id X V U R:Int)(k:Nat)(O:k<3)(i:Nat):over (6+k*7) 7 Fj (Cq id X V U R k) i=Cq id X V U R (k+1) i:=by
 by_cases h:6+k*7<=i/\i<6+k*7+7
 .rw[Jl h.1 h.2]
  unfold Cq pO
  rw[Ao Aa,Ao Aa]
  congr 1
  omega
 rw[Cx Aa]
 unfold Cq
 by_cases Z:6<=i/\i<27
 .rw[Ao Z,Ao Z]
  unfold pO
  by_cases Y:(i-6)/7<k
  . rw[Ao Y,Ao Aa]
  rw[Aj Y,Aj (show ¬(i-6)/7<k+1 by omega)]
 rw[Aj Z,Aj Z]
def NF{B:Nat}{w w':World}(h:Below B w.drew w'):Below B w w':=⟨h.os,h.tape,h.output,h.size,h.block⟩
end Nd
end Go.Proofs.YtjobajeggllmiaaGreat
