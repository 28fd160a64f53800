import Derived.BigQuiet
import Derived.Deep.MidRow
import Derived.Deep.Slices
import Derived.Laws.CopyOwn
import Derived.Lib.Hide
import Derived.OpenShut
import Derived.ProofKit
import Derived.Test.YtjobajeggllmiaaGreatRows
import Derived.WalkLawsBesides
import Derived.WalkSpells
set_option linter.all false
set_option maxHeartbeats 100000000
set_option maxRecDepth 100000
namespace Go.Proofs.YtjobajeggllmiaaGreat
abbrev AZ(x0:Int)(x1:Int)(x2:Int)(x3:Int)(x4:Int)(x5:Bool)(x6:Int):Array Value:=#[.int .i64 x0,.int .i64 x1,.int .i64 x2,.int .i64 x3,.int .i64 x4,.bool x5,.int .i64 x6]
abbrev Bn(x0:Int)(x1:Int)(x2:Int)(x3:Int):Array Value:=#[.int .i64 x0,.int .i64 x1,.int .i64 x2,.int .i64 x3]
abbrev BL(x0:Int)(x1:Int)(x2:Int)(s3:Option Addr)(n3 c3:Nat):Array Value:=#[.int .i64 x0,.int .i64 x1,.int .i64 x2,.slice s3 n3 c3]
abbrev FD(x0:Int)(x1:Int)(x2:Int)(x3:Int)(x4:Int)(x5:Int)(x6:Int)(x7:Int)(x8:Int)(x9:Bool)(x10:Bool)(x11:Bool)(x12:Bool)(x13:Bool):Array Value:=#[.int .i64 x0,.int .i64 x1,.int .i64 x2,.int .i64 x3,.int .i64 x4,.int .i64 x5,.int .i64 x6,.int .i64 x7,.int .i64 x8,.bool x9,.bool x10,.bool x11,.bool x12,.bool x13]
abbrev G9(x0:Int)(x1:Int)(x2:Int):Array Value:=#[.int .i64 x0,.int .i64 x1,.int .i64 x2]
abbrev JV(x0:Int)(x1:Int)(x2:Int):Array Value:=#[.int .i64 x0,.int .i64 x1,.int .i64 x2,.slice none 0 0]
abbrev J7(x0:Int)(x1:Int)(s2:Option Addr)(n2 c2:Nat):Array Value:=#[.int .i64 x0,.int .i64 x1,.slice s2 n2 c2]
abbrev LB(x0:Int):Array Value:=#[.int .i64 x0]
abbrev PV(x0:Int)(x1:Int)(x2:Int)(x3:Int)(x4:Int)(x5:Int)(x6:Int):Array Value:=#[.int .i64 x0,.int .i64 x1,.int .i64 x2,.int .i64 x3,.int .i64 x4,.int .i64 x5,.int .i64 x6]
abbrev PX(x0:Int)(x1:Bool)(s2:Option Addr)(n2 c2:Nat):Array Value:=#[.int .i64 x0,.bool x1,.slice s2 n2 c2]
abbrev QA(x0:Int)(x1:Int):Array Value:=#[.int .i64 x0,.int .i64 x1]
abbrev QV:Array Value:=#[.int .i64 0,.int .i64 0,.int .i64 0,.slice none 0 0]
abbrev RV:Array Value:=#[.bool false,.bool false,.bool false,.bool false,.int .i64 0,.int .i64 0,.int .i64 0,.int .i64 0,.int .i64 0,.int .i64 0,.int .i64 0,.int .i64 0]
abbrev R8:Array Value:=#[.int .i64 0,.int .i64 0,.int .i64 0,.int .i64 0,.int .i64 0,.int .i64 0,.int .i64 0,.int .i64 0,.int .i64 0,.bool false,.bool false,.bool false,.bool false,.bool false]
abbrev VB:Array Value:=#[.int .i64 0,.int .i64 0,.int .i64 0,.int .i64 0,.int .i64 0,.int .i64 0,.int .i64 0,.int .i64 0,.int .i64 0,.int .i64 0,.int .i64 0,.int .i64 0,.int .i64 0,.slice none 0 0]
abbrev VD:Array Value:=#[.int .i64 0,.int .i64 0,.int .i64 0,.int .i64 0,.int .i64 0,.bool false,.int .i64 0]
abbrev VF:Array Value:=#[.int .i64 0,.int .i64 0,.int .i64 0,.int .i64 0,.int .i64 0,.int .i64 0,.int .i64 0,.int .i64 0,.int .i64 0,.int .i64 0,.int .i64 0,.int .i64 0]
abbrev VS:Array Value:=#[.slice none 0 0,.slice none 0 0,.slice none 0 0,.slice none 0 0]
abbrev aI:Array Value:=#[.int .i64 0,.int .i64 0,.int .i64 0,.int .i64 0,.int .i64 0,.bool false,.int .i64 0,.int .i64 0,.int .i64 0,.int .i64 0,.int .i64 0,.int .i64 0,.bool false,.int .i64 0,.int .i64 0,.int .i64 0,.int .i64 0,.int .i64 0,.int .i64 0,.bool false,.int .i64 0]
abbrev aK:Array Value:=#[.bool false,.slice none 0 0]
abbrev bg:Array Value:=#[.int .i64 0,.int .i64 0]
abbrev bR:Array Value:=#[.int .i64 0,.int .i64 0,.int .i64 0,.int .i64 0]
abbrev bT:Array Value:=#[.int .i64 0,.bool false,.slice none 0 0]
abbrev dS:Array Value:=#[.int .i64 0,.int .i64 0,.int .i64 0]
abbrev eZ:Array Value:=#[.bool false]
abbrev gu:Array Value:=#[.slice none 0 0,.bool false]
open _root_.Go.Proofs.Tryz
def zz{p:Prop}(h:p):RowKit.Hid p:=Lib.hid h
def _root_.Go.RowKit.Hid.o{p:Prop}(h:RowKit.Hid p):p:=h
def Nr{n:Nat}:n<=n:=Nat.le_refl n
def AJ{α:Sort _}(a:α):∃b,a=b:=⟨_,rfl⟩
def Aa{p:Prop}(h:p:=by omega):p:=h
def Ap{p:Prop}(h:p:=by kernel_rfl):p:=h
def Bb{p:Prop}(h:p:=by rfl):p:=h
def Bq{p:Prop}(h:p:=by simp):p:=h
def Ec{p:Prop}(h:p:=by simp;omega):p:=h
def El{p:Prop}(h:p:=by decide):p:=h
def GX{p:Prop}(h:p:=by unfold maxLen;omega):p:=h
def Ck{p:Prop}(h:p:=by simp[intOf];omega):p:=h
def BG{p:Prop}(h:p:=by go_num):p:=h
def GR{p:Prop}(h:p:=by simp[Value.oneCell']):p:=h
def Mh{p:Prop}(h:p:=by assumption):p:=h
def Eg{p:Prop}(h:p:=by rw[Rws.Ag];kernel_rfl):p:=h
abbrev Ao:= @if_pos
abbrev Aj:= @if_neg
namespace Rg
def lp:(∀(t:Array Value) (l:List Deferred) (d:Tmp) (v:Value),Act.put ⟨t,l⟩ (some d) v=⟨t.setIfInBounds d v,l⟩)/\(∀(t:Array Value) (l:List Deferred) (v:Value),Act.put ⟨t,l⟩ none v=⟨t,l⟩)/\(∀(l:List Value) (i:Nat) (v:Value),l.toArray.setIfInBounds i v=(l.set i v).toArray)/\(∀(a b:Value) (l:List Value),(b::l).set 0 a=a::l)/\(∀(a b:Value) (l:List Value) (n:Nat),(b::l).set (n+1) a=b::l.set n a):=⟨fun _ _ _ _=>rfl,fun _ _ _=>rfl,fun _ _ _=>List.setIfInBounds_toArray ..,fun _ _ _=>rfl,fun _ _ _ _=>rfl⟩
end Rg
namespace Fr
open Go.ChangeShapes Go.WideShapes Go.ChangeAt Go.RowKit
section
variable {H : Type} {enc : TypeId × Value -> H} {P : Program}
def Sk(T:laidOutB P=true){W U:World}(hb:Below W.heap.size W U):
  ∀ {ts:List TypeId} {Y:List Value} {V:List (DataW H)} {Z:List MemPlace},(∀t∈ts,P.readableRec t=true/\t<P.types.size)->
   DataW.TrodAll enc P W 0 (fun _=>true) true ts Y V Z->(∀x∈Z,x.block<W.heap.size)->
   DataW.TrodAll enc P U 0 (fun b=>decide (b<W.heap.size)) true ts Y V Z
 |[],[],[],Z,_,h,_=>h
 |t::ts,v::Y,d::V,Z,hts,h,hlt=>by
  obtain⟨p,q,N,O,rfl⟩:=h;obtain⟨a,b⟩:=hts t List.mem_cons_self;exact⟨p,q,Below.trod T a b N hb (fun x X=>hlt x (List.mem_append_left _ X)),Sk T hb (fun t R=>hts t (List.mem_cons_of_mem _ R)) O (fun x X=>hlt x (List.mem_append_right _ X)),rfl⟩
 |[],_::_,_,_,_,h,_=>h.elim
 |[],[],_::_,_,_,h,_=>h.elim
 |_::_,[],_,_,_,h,_=>h.elim
 |_::_,_::_,[],_,_,h,_=>h.elim
def bE(C:laidOutB P=true){f:Func}{s:ChangeSpec}{apart fresh V:Bool}{W W':World}{args:Array Value}{X z:List (DataW H)}{Z:List MemPlace}{J:TypeId}(hts:∀t∈f.params.toList,P.readableRec t=true/\t<P.types.size)(hv:s.vars=[])(hr:f.resultTypes=#[J])(hb:P.underlying J=some .bool)(hfn:X.length=f.params.size->s.fn H X={ results:=[.lit (.bool true)],args:=X })(hW:DataW.Whole enc P f.params.toList s.vars apart W args.toList X z Z)(hbel:Below W.heap.size W W'):
  s.post enc P f apart fresh V false W args (.bool true) W':=by
 have T:=hW;obtain⟨p,q,G,I,O,y,E⟩:=hW;rw[hv]at I;obtain⟨rfl,rfl⟩:=trodVars_none I
 have R:X.length=f.params.size:=by
  have:∀(ts:List TypeId) (U:List Value) (X:List (DataW H)) (N:List MemPlace),DataW.TrodAll enc P W 0 (fun _=>true) true ts U X N->X.length=ts.length:=by
   intro ts
   induction ts with
   |nil=>intro U X N h;cases U<;>cases X<;>first|rfl|exact h.elim
   |cons t ts ih=>
    intro U X N h
    cases U with
    |nil=>exact h.elim
    |cons v U=>
     cases X with
     |nil=>exact h.elim
     |cons d X=>obtain⟨_,_,_,D,_⟩:=h;simp[ih _ _ _ D]
  simpa using this _ _ _ _ G
 have Y:=hfn R
 have L:∀x∈Z,x.block<W.heap.size:=fun x F=>by simpa using T.lt x F
 have M:Z=p:=by simpa using O
 subst M;refine⟨X,[],Z,[],Z,[],T,?_,?_,?_,hbel.frame _,fun h=>by cases h⟩
 .rw[hr,List.append_nil,Y];exact trodAll_cons_mk (shut_bool hb true) trodAll_mk0
 .rw[List.append_nil,Y];exact Sk C hbel hts G L
 rw[hv]
 show DataW.TrodVars enc P W' _ [] (s.fn H (X++[])).vars []
 rw[List.append_nil,Y];rfl
def YV(R:laidOutB P=true){k:FuncId}{f:Func}{s:ChangeSpec}{apart fresh Z:Bool}{W:World}{args:Array Value}{V O:List (DataW H)}{Y:List MemPlace}{U:TypeId}(hts:∀t∈f.params.toList,P.readableRec t=true/\t<P.types.size)(hv:s.vars=[])(hr:f.resultTypes=#[U])(hb:P.underlying U=some .bool)(hfn:V.length=f.params.size->s.fn H V={ results:=[.lit (.bool true)],args:=V })(hW:DataW.Whole enc P f.params.toList s.vars apart W args.toList V O Y)(hwalk:Calls P k args W fun e W'=>e=.returned (.bool true)/\Below W.heap.size W W'):
  Calls P k args W fun e W'=>∃v,e=.returned v/\s.post enc P f apart fresh Z false W args v W':=
 hwalk.mono fun _ _ ⟨T,X⟩=>⟨_,T,bE R hts hv hr hb hfn hW X⟩
end
def own:ownKnob prog.godebug=none:=Ap
def laidOut:laidOutB prog=true:=Ap
end Fr
namespace Facts
def Qa:mapsRowed prog=true:=Ap
def jG:(prog.stops==[])=true:=Ap
def fF:(prog.stopKnobs==[])=true:=Ap
def ng:(true==prog.plainKeys)=true:=Ap
def fA:prog.stopsHeard=true:=Ap
def gW:prog.mayEnter=true:=Ap
def eu:(false==prog.liftsFinal)=true:=Ap
def nM:(prog.make==some .cut)=true:=Ap
end Facts
namespace Mem
open Go.RowKit
def Ae(w:World)(g:Nat)(t:TypeId)(cs:Array Value):Prop:=w.heap[g]?=some (.cells cs t (0,0))
section
variable {w w' : World} {g : Nat} {t : TypeId} {cs : Array Value}
def Ae.lt(h:Ae w g t cs):g<w.heap.size:=by
 by_cases Z:g<w.heap.size
 . exact Z
 unfold Ae at h;rw[Array.getElem?_eq_none Aa]at h;cases h
def Ae.cell(h:Ae w g t cs)(i:Nat): w.cell? ⟨g,i,none⟩=cs[i]?:=by
 unfold Ae at h;simp[World.cell?,h]
def Ae.thaw(h:Ae w g t cs)(i:Nat): w.frozen? ⟨g,i,none⟩=false:=by
 unfold Ae at h;simp[World.frozen?,h]
def Ae.fresh(w:World)(t:TypeId)(cs:Array Value):Ae (w.alloc (.cells cs t)) w.heap.size t cs:=by
 show(w.heap.push _)[w.heap.size]?=_;simp
def Ae.new(Z:g=w.heap.size):Ae (w.alloc (.cells cs t)) g t cs:=by subst Z;exact Ae.fresh w t cs
def Ae.drewN(h:Ae w g t cs)(n:Nat):Ae (w.drewN n) g t cs:=h
def Ae.drew(h:Ae w g t cs):Ae w.drew g t cs:=h
def Ae.alloc(h:Ae w g t cs)(o:Obj):Ae (w.alloc o) g t cs:=(Below.heap_alloc w o g h.lt).trans h
def Ae.set(h:Ae w g t cs)(i:Nat)(u:Value):Ae (w.setCell ⟨g,i,none⟩ u) g t (cs.setIfInBounds i u):=by
 unfold Ae at h ⊢;simp[World.setCell,Array.getElem?_modify,h]
def Ae.other(h:Ae w g t cs){p:Addr}(Z:g≠p.block)(u:Value):Ae (w.setCell p u) g t cs:=(Below.heap_setCell w p u g Z).trans h
def Ae.below{B:Nat}(h:Ae w g t cs)(hb:Below B w w')(Z:g<B):Ae w' g t cs:=(hb.block g Z).trans h
def Ae.grown{row:Option Nat}(h:Ae w g t cs)(hb:w.grownBy w' row)(Z:some g≠row):Ae w' g t cs:=(hb.block g h.lt Z).trans h
def Ae.setRow(h:Ae w g t cs)(cs':Array Value):Ae (w.setRow g cs') g t cs':=setRow_heap w g cs cs' t (0,0) h
def Ae.setRow_other(h:Ae w g t cs){g':Nat}(Y:g≠g')(Z:Array Value):Ae (w.setRow g' Z) g t cs:=(Go.setRow_other w g' g Z Y).trans h
def Ae.apart{g':Nat}{t':TypeId}{Y:Array Value}(h:Ae w g t cs)(Z:Ae w g' t' Y)(X:t≠t'):g≠g':=by
 intro e;subst e;unfold Ae at h Z;rw[h]at Z;simp at Z;exact X Z.2
end
def Rd(w:World)(B size:Nat)(A:Option Addr)(n:Nat)(xs:List Value):Prop:=
 xs.length=n*size/\(0<n->∃b o,A=some ⟨b,o,none⟩/\b<B/\∀j u,xs[j]?=some u-> w.cell? ⟨b,o+j,none⟩=some u)
section
variable {w w' : World} {B B' size n : Nat} {A : Option Addr} {xs : List Value}
def Rd.nil(w:World)(B size:Nat)(A:Option Addr):Rd w B size A 0 []:=⟨Bq,fun h=>absurd h Aa⟩
def Rd.keep(h:Rd w B size A n xs)(Z:∀b o,b<B-> w'.cell? ⟨b,o,none⟩= w.cell? ⟨b,o,none⟩):Rd w' B size A n xs:=
 ⟨h.1,fun Y=>let ⟨b,o,e,hb,X⟩:=h.2 Y;⟨b,o,e,hb,fun j u W=>(Z b _ hb).trans (X j u W)⟩⟩
def Rd.more(h:Rd w B size A n xs)(X:B<=B'):Rd w B' size A n xs:=
 ⟨h.1,fun Z=>let ⟨b,o,e,hb,Y⟩:=h.2 Z;⟨b,o,e,Aa,Y⟩⟩
def Rd.below(h:Rd w B size A n xs)(hb:Below B w w'):Rd w' B size A n xs:=h.keep fun b o Z=>hb.cell (p:=⟨b,o,none⟩) Z
def Rd.drewN(h:Rd w B size A n xs)(k:Nat):Rd (w.drewN k) B size A n xs:=h
def Rd.drew(h:Rd w B size A n xs):Rd w.drew B size A n xs:=h
def Rd.alloc(h:Rd w B size A n xs)(Z:B<=w.heap.size)(o:Obj):Rd (w.alloc o) B size A n xs:=
 h.keep fun b X Y=>World.cell?_alloc_lt w o _ (show b<w.heap.size by omega)
def Rd.setCell(h:Rd w B size A n xs){p:Addr}(Z:B<=p.block)(u:Value):Rd (w.setCell p u) B size A n xs:=
 h.keep fun b o hq=>World.cell?_setCell_other w p _ u (fun e=>by subst e;exact absurd hq (Nat.not_lt.2 Z))
def Rd.grown(h:Rd w B size A n xs){row:Option Nat}(Z:w.grownBy w' row)(X:B<=w.heap.size)(Y:∀g,row=some g->B<=g):Rd w' B size A n xs:=
 h.keep fun b o W=>World.cell?_of_block (Z.block b Aa (fun e=>by have:=Y _ e.symm;omega))
def Rd.at{k:Nat}(h:Rd w B 1 A n xs)(X:k<n):∃b o u,A=some ⟨b,o,none⟩/\b<B/\xs[k]?=some u/\ w.cell? ⟨b,o+k,none⟩=some u:=by
 obtain⟨b,o,e,hb,Y⟩:=h.2 Aa
 have Z:k<xs.length:=by have:=h.1;omega
 exact⟨b,o,xs[k],e,hb,List.getElem?_eq_getElem Z,Y k _ (List.getElem?_eq_getElem Z)⟩
def Rd.Bu{base:Nat}{e:TypeId}{c:Nat}(h:w.ownsRow base e size (.slice A n c) n xs):Rd w w.heap.size size A n xs:=by
 refine⟨h.1,fun O=>?_⟩;have T:=h;obtain⟨_,⟨_,rfl⟩|⟨g,R,W,V,_,Z,_⟩⟩:=h
 . omega
 have Y:A=some ⟨g,0,none⟩:=by injection V
 subst Y;refine⟨g,0,rfl,?_,fun j u X=>?_⟩
 .by_cases U:g<w.heap.size
  . exact U
  rw[Array.getElem?_eq_none Aa]at Z;cases Z
 have:=T.cells (g:=g) rfl j u X
 have e:(⟨g,0,none⟩:Addr).add j=⟨g,0+j,none⟩:=by unfold Addr.add;split<;>simp_all
 rwa[e]at this
def Rd.cut(h:Rd w B size A n xs){lo hi Y:Nat}(U:lo<=hi)(V:hi<=n)(O:n<=Y):
  Rd w B size (if Y=lo then A else A.map (·.add (lo*size))) (hi-lo) ((xs.take (hi*size)).drop (lo*size)):=by
 have X:=h.1;have T:hi*size<=n*size:=Nat.mul_le_mul_right _ V;refine⟨by rw[List.length_drop,List.length_take,X,Nat.sub_mul];omega,fun R=>?_⟩;obtain⟨b,o,rfl,hb,Z⟩:=h.2 Aa;rw[Aj Aa];refine⟨b,o+lo*size,?_,hb,fun j u W=>?_⟩
 .simp only[Option.map_some,Addr.add]
  split<;>simp_all
 rw[Nat.add_assoc];refine Z _ u ?_;rw[List.getElem?_drop,List.getElem?_take]at W
 split at W
 . exact W
 cases W
end
def below_drewN{B:Nat}{a w:World}(h:Below B a w)(n:Nat):Below B a (w.drewN n):=⟨h.os,h.tape,h.output,h.size,h.block⟩
def Bh{B:Nat}{a w w':World}(h:Below B a w)(Z:B<=a.heap.size)(k:Below w.heap.size w w'):Below B a w':=h.trans (k.mono (Nat.le_trans Z h.size))
def BF{B:Nat}{w w':World}(h:Below B w w'):∀b o,b<B-> w'.cell? ⟨b,o,none⟩= w.cell? ⟨b,o,none⟩:=fun b o hb=>h.cell (p:=⟨b,o,none⟩) hb
structure Elem(P:Program)(t e:TypeId)(z:Value)(size bytes:Nat):Prop where
 und:P.underlying t=some (.slice e)
 info:(P.info? e).map (fun i=>(i.zero,i.size,i.bytes))=some (some z,size,bytes)
 cells:z.cells.size=size
 pos:0<size
def Ip{w:World}{base:Nat}{e:TypeId}{size:Nat}{v:Value}{n:Nat}{xs:List Value}(h:w.ownsRow base e size v n xs):
  ∃A c,v=.slice A n c/\n<=c/\c<=maxLen/\(A=none->n=0/\c=0)/\xs.length=n*size/\Rd w w.heap.size size A n xs:=by
 obtain⟨Y,⟨rfl,rfl⟩|⟨g,Z,X,rfl,hb,T,V,W,R,U⟩⟩:=h
 .have:xs=[]:=List.eq_nil_of_length_eq_zero (by simpa using Y);subst this;exact⟨none,0,rfl,Nat.le_refl _,GX,fun _=>⟨rfl,rfl⟩,Y,Rd.nil _ _ _ _⟩
 exact⟨_,Z,rfl,V,W,Bq,Y,Rd.Bu ⟨Y,.inr ⟨g,Z,X,rfl,hb,T,V,W,R,U⟩⟩⟩
def Bf{w:World}{base base':Nat}{e:TypeId}{size:Nat}{v:Value}{n:Nat}{xs:List Value}(h:w.ownsRow base e size v n xs)(hb:base'<=base):w.ownsRow base' e size v n xs:=by
 obtain⟨X,h|⟨g,Y,Z,W,U,V⟩⟩:=h
 . exact⟨X,.inl h⟩
 exact⟨X,.inr ⟨g,Y,Z,W,Aa,V⟩⟩
section
variable {P : Program}
def MR(w:World)(row:Option Nat):w.grownBy w row:=⟨rfl,rfl,rfl,Nat.le_refl _,fun _ _ _=>rfl⟩
def RX(w:World){base:Nat}{t ty e:TypeId}{z:Value}{size Z:Nat}(E:Elem P t e z size Z){v:Value}{n:Nat}{xs:List Value}(hown:w.ownsRow base e size v n xs){B:Nat}{A:Option Addr}{m c:Nat}{news:List Value}(hA:A=none->m=0/\c=0)(hr:Rd w B size A m news)(M:∀u∈news,u.oneCell'=true)(h63:n+m<=maxLen)(hbytes:(n+m)*Z<=140737488355328)(hbase:base<=w.heap.size):
  ∃W U w',(Builtin.append_ #[t,t] ty #[v,.slice A m c]).run P w=.ok (.slice W (n+m) U) w'/\(W=none->n+m=0/\U=0)/\w'.ownsRow base e size (.slice W (n+m) U) (n+m) (xs++news)/\w.grownBy w' v.ownBlock:=by
 suffices hs:∃X w',(Builtin.append_ #[t,t] ty #[v,.slice A m c]).run P w=.ok X w'/\w'.ownsRow base e size X (n+m) (xs++news)/\w.grownBy w' v.ownBlock by
  obtain⟨X,w',M,T,L⟩:=hs;obtain⟨W,U,rfl,_,_,y,_⟩:=Ip T;exact⟨W,U,w',M,y,T,L⟩
 obtain⟨i,hi,I,O,R⟩:=info_parts E.info
 cases A with
 |none=>
  obtain⟨rfl,rfl⟩:=hA rfl;have J:news=[]:=List.eq_nil_of_length_eq_zero (by simpa using hr.1);subst J;exact⟨v,w,run_append_owned_none w base t ty e i size E.und hi v n xs hown,by simpa using hown,MR w _⟩
 |some ad=>
  have Y:∀j u,news[j]?=some u-> w.cell? (ad.add j)=some u:=by
   intro j u G
   by_cases F:0<m
   .obtain⟨b,o,N,hb,D⟩:=hr.2 F
    injection N with N
    subst N
    have C:(⟨b,o,none⟩:Addr).add j=⟨b,o+j,none⟩:=by unfold Addr.add;split<;>simp_all
    rw[C];exact D j u G
   obtain rfl:m=0:=Aa;have J:news=[]:=List.eq_nil_of_length_eq_zero (by simpa using hr.1);subst J
   simp at G
  obtain⟨X,w',V,T,L,_⟩:=run_append_own (P:=P) w base t ty e i z size Z E.und hi I O R E.cells E.pos v n xs hown ad m c news hr.1 Y M h63 hbytes hbase;exact⟨X,w',V,T,L⟩
def Ea(w:World){o:Oper}{a:Act}{K:Act->World->Prop}{Q:Exit->Act->World->Prop}(s x:Operand)(t:TypeId)(ho:o.op=.call { callee:=.builtin .append,args:=#[s,x],argTypes:=#[t,t] }){base:Nat}{e:TypeId}{z:Value}{size bytes:Nat}(E:Elem P t e z size bytes){v:Value}{n:Nat}{xs:List Value}(hs:a.eval s=v)(hown:w.ownsRow base e size v n xs){B:Nat}{A:Option Addr}{m c:Nat}{news:List Value}(hx:a.eval x=.slice A m c)(hA:A=none->m=0/\c=0)(hr:Rd w B size A m news)(h1:∀u∈news,u.oneCell'=true)(h63:n+m<=maxLen)(hbytes:(n+m)*bytes<=140737488355328)(hbase:base<=w.heap.size)(h:∀Z X w',(Z=none->n+m=0/\X=0)->w'.ownsRow base e size (.slice Z (n+m) X) (n+m) (xs++news)->w.grownBy w' v.ownBlock->K (a.put o.dst (.slice Z (n+m) X)) w'):o.wp P a w K Q:=by
 obtain⟨Z,X,w',Y,U,V,W⟩:=RX (P:=P) (ty:=o.type) w E hown hA hr h1 h63 hbytes hbase
 unfold Oper.wp execOp
 simp only[ho,resolve,invoke,builtin,Sem.run_bind,Sem.run_pure,Result.andThen_ok,List.map_toArray,List.map_cons,List.map_nil,hs,hx,Y];exact h Z X w' U V W
def Aq(w:World){ops:Array Oper}{rest:List Oper}{o:Oper}{a:Act}{Q:Exit->Act->World->Prop}(X:o.guard=none)(s x:Operand)(t:TypeId)(ho:o.op=.call { callee:=.builtin .append,args:=#[s,x],argTypes:=#[t,t] }){base:Nat}{e:TypeId}{z:Value}{size bytes:Nat}(E:Elem P t e z size bytes){v:Value}{n:Nat}{xs:List Value}(hs:a.eval s=v)(hown:w.ownsRow base e size v n xs){B:Nat}{A:Option Addr}{m c:Nat}{news:List Value}(hx:a.eval x=.slice A m c)(hA:A=none->m=0/\c=0)(hr:Rd w B size A m news)(h1:∀u∈news,u.oneCell'=true)(h63:n+m<=maxLen)(hbytes:(n+m)*bytes<=140737488355328)(hbase:base<=w.heap.size)(h:∀Z Y w',(Z=none->n+m=0/\Y=0)->w'.ownsRow base e size (.slice Z (n+m) Y) (n+m) (xs++news)->w.grownBy w' v.ownBlock->wpList P ops Q rest (a.put o.dst (.slice Z (n+m) Y)) w'):wpList P ops Q (o::rest) a w:=
 wpList_plain X fun _ hK=>Ea w s x t ho E hs hown hx hA hr h1 h63 hbytes hbase fun Z Y w' W V U=>hK _ _ (h Z Y w' W V U)
def Fs{Z:Func}{R:Ending->World->Prop}{a:Act}{w:World}{p:Tmp}{ty:TypeId}(h:Z.results=#[.cell p ty]){g:Nat}{t:TypeId}{cs:Array Value}{d:TypeDesc}(hp:a.tmps.getD p undef=.pointer (some ⟨g,0,none⟩))(hg:Ae w g t cs)(hu:P.underlying ty=some d)(hd:(match d with| .struct _| .array _ _=>true|_=>false)=true)(hi:(P.info? ty).map (·.size)=some cs.size)(hdf:a.defers=[])(hR:R (.returned (.agg cs)) w):bodyPost P Z R .ret a w:=
 bodyPost_ret (results_cell_row h a.tmps w g t cs (0,0) d hp hg hu hd hi) hdf hR
end
def Ik{k:IntKind}{a b:Int}(h:a=b):Ending.returned (.int k a)=.returned (.int k b):=by rw[h]
def WL{a b:Bool}(h:a=b):Ending.returned (.bool a)=.returned (.bool b):=by rw[h]
def BH(k:IntKind)(n:Nat)(f:Nat->Int):Array Value:=((List.range n).map fun i=>Value.int k (f i)).toArray
def EL(k:IntKind)(n:Nat)(f:Nat->Int):(BH k n f).size=n:=by simp[BH]
def Cu(k:IntKind)(n:Nat)(f:Nat->Int)(i:Nat)(hi:i<n):(BH k n f)[i]?=some (.int k (f i)):=by simp[BH,hi]
def NM(k:IntKind)(n:Nat)(f:Nat->Int)(i:Nat)(hi:n<=i):(BH k n f)[i]?=none:=by rw[Array.getElem?_eq_none (by rw[EL];exact hi)]
def EA{k:IntKind}{n:Nat}{f g:Nat->Int}(h:∀i,i<n->f i=g i):BH k n f=BH k n g:=by
 unfold BH
 congr 1
 exact List.map_congr_left fun i hi=>by rw[h i (List.mem_range.1 hi)]
def Es{k:IntKind}{n:Nat}{f g:Nat->Int}{j:Nat}{v:Int}(h:∀i,i<n->g i=if i=j then v else f i):(BH k n f).setIfInBounds j (.int k v)=BH k n g:=by
 apply Array.ext_getElem?
 intro i;rw[Array.getElem?_setIfInBounds,EL]
 by_cases hi:i<n
 .rw[Cu _ _ _ i hi,Cu _ _ _ i hi,h i hi]
  by_cases e:j=i
  . subst e;simp[hi]
  rw[Aj e,Aj (fun h=>e h.symm)]
 rw[NM _ _ _ i Aa,NM _ _ _ i Aa]
 split
 . rw[Aj Aa]
 rfl
def Rb{k:IntKind}{n:Nat}{f:Nat->Int}:(BH k n f).all (·.oneCell')=true:=by
 rw[Array.all_eq_true_iff_forall_mem];intro v Z;simp only[BH,List.mem_toArray,List.mem_map]at Z;obtain⟨i,_,rfl⟩:=Z;rfl
def RZ(k:IntKind)(n:Nat):madeCells #[Value.int k 0] n=BH k n (fun _=>0):=by
 apply Array.ext'
 rw[toList_madeCells_one]
 show List.replicate n (Value.int k 0)=(BH k n (fun _=>0)).toList
 simp only[BH];rw[List.map_const',List.length_range]
def wpList_make_row{P:Program}{w:World}{ops:Array Oper}{rest:List Oper}{o:Oper}{a:Act}{Q:Exit->Act->World->Prop}(hg:o.guard=none)(l c:Operand)(t:TypeId)(hop:o.op=Op.makeSlice t l c){e:TypeId}{k:IntKind}{bytes:Nat}(E:Elem P t e (.int k 0) 1 bytes){kl kc:IntKind}{L C:Int}(n:Nat)(hl:a.eval l=.int kl L)(hc:a.eval c=.int kc C)(hL:L=(n:Int))(hC:C=(n:Int))(hb:bytes*n<=281474976710656)(hn:n<=9223372036854775807)(h:wpList P ops Q rest (a.put o.dst (.slice (some ⟨w.heap.size,0,none⟩) n n)) (w.alloc (.cells (BH k n (fun _=>0)) e))):wpList P ops Q (o::rest) a w:=by
 obtain⟨i,hi,X,W,Z⟩:=info_parts E.info;subst Z
 have Y:(i.bytes:Int)*(n:Int)<=281474976710656:=by
  have h:((i.bytes*n:Nat):Int)<=281474976710656:=Aa
  rwa[Int.natCast_mul]at h
 have V:=run_make (P:=P) w t e i (.int k 0) E.und hi X kl kc n n Aa Aa Y Aa;refine wpList_plain hg fun K hK=>?_;subst hL;subst hC;simp only[Int.toNat_natCast,W,Nat.mul_one]at V
 unfold Oper.wp
 simp only[execOp,hop,hl,hc,V,Result.andThen_ok,Sem.run_bind,Sem.run_pure];refine hK _ _ ?_;rw[←RZ]at h;exact h
def Ae.upto{w:World}{G:Nat}{t:TypeId}{k:IntKind}{n j:Nat}{f:Nat->Int}{v:Int}(h:Ae w G t (BH k n fun i=>if i<j then f i else 0))(Y:v=f j):Ae (w.setCell ⟨G,j,none⟩ (.int k v)) G t (BH k n fun i=>if i<j+1 then f i else 0):=by
 rw[←Es (f:=fun i=>if i<j then f i else 0) (j:=j) (v:=v) (fun i hi=>?_)]
 . exact h.set _ _
 by_cases e:i=j
 . subst e;rw[Ao rfl,Ao Aa,Y]
 rw[Aj e]
 by_cases Z:i<j
 . rw[Ao Z,Ao Aa]
 rw[Aj Z,Aj Aa]
def Ae.all{w:World}{G:Nat}{t:TypeId}{k:IntKind}{n:Nat}{f:Nat->Int}(h:Ae w G t (BH k n fun i=>if i<n then f i else 0)):Ae w G t (BH k n f):=by
 rw[←EA (f:=fun i=>if i<n then f i else 0) (fun i hi=>Ao hi)];exact h
def Ae.none{w:World}{G:Nat}{t:TypeId}{k:IntKind}{n:Nat}{f:Nat->Int}(h:Ae w G t (BH k n fun _=>0)):Ae w G t (BH k n fun i=>if i<0 then f i else 0):=by
 rw[EA (g:=fun _=>0) (fun i hi=>Aj Aa)];exact h
def Ae.IU{w:World}{G:Nat}{t:TypeId}{k:IntKind}{n j:Nat}{f:Nat->Int}(h:Ae w G t (BH k n fun i=>if i<j then f i else 0))(Z:j<n): w.cell? ⟨G,j,Option.none⟩=some (.int k 0):=by
 rw[h.cell,Cu _ _ _ _ Z,Aj Aa]
def Cz(n:Int):IntKind.u64.wrap n=n%18446744073709551616:=by simp[IntKind.wrap,IntKind.bits,IntKind.signed]
end Mem
def AU{w w':World}{g:Nat}{t:TypeId}{cs:Array Value}(h:RowKit.Hid (Mem.Ae w g t cs))(hb:RowKit.Below w.heap.size w w'):RowKit.Hid (Mem.Ae w' g t cs):=zz (h.o.below hb h.o.lt)
def GJ{w w':World}{base:Nat}{e:TypeId}{size:Nat}{v:Value}{n:Nat}{xs:List Value}(h:RowKit.Hid (w.ownsRow base e size v n xs))(hb:RowKit.Below w.heap.size w w'):RowKit.Hid (w'.ownsRow base e size v n xs):=zz (h.o.kept (row:=none) ⟨hb.os,hb.tape,hb.output,hb.size,fun g Z _=>hb.block g Z⟩ (by cases v.ownBlock<;>simp))
def CU{a w w':World}(h:RowKit.Hid (RowKit.Below a.heap.size a w))(hb:RowKit.Below w.heap.size w w'):RowKit.Hid (RowKit.Below a.heap.size a w'):=zz (Mem.Bh h.o (Nat.le_refl _) hb)
def Iz{w w':World}{size n:Nat}{A:Option Addr}{xs:List Value}(h:RowKit.Hid (Mem.Rd w w.heap.size size A n xs))(hb:RowKit.Below w.heap.size w w'):RowKit.Hid (Mem.Rd w' w'.heap.size size A n xs):=zz ((h.o.below hb).more hb.size)
def DC{w:World}{o:Obj}:RowKit.Below w.heap.size w (w.alloc o):=(RowKit.Below.refl _ _).alloc (Nat.le_refl _) o
namespace Op
open Go.ChangeShapes Go.WideShapes Go.ChangeAt Go.RowKit Mem
def FB(L:TypeId->Option (List TypeId))(C:TypeId->Nat):Nat->List Field->Option (List TypeId)
 |_,[]=>some []
 |off,f::fs=>
  match L f.type with
  |none=>none
  |some l=>
   if f.offset=off/\C f.type=l.length then
    match FB L C (off+l.length) fs with
    |none=>none
    |some r=>some (l++r)
   else none
def leaves(P:Program):Nat->TypeId->Option (List TypeId)
 |0,_=>none
 |d+1,t=>
  match P.underlying t with
  |some (.struct fs)=>
   match FB (leaves P d) P.cellsOf 0 fs.toList with
   |some l=>if P.cellsOf t=l.length then some l else none
   |none=>none
  |some (.array n e)=>
   match leaves P d e with
   |some l=>if P.cellsOf e=l.length/\P.cellsOf t=n*l.length then some (List.replicate n l).flatten else none
   |none=>none
  |some _=>some [t]
  |none=>none
section
variable {H : Type} (enc : TypeId × Value -> H) (P : Program) (w : World) (base : Nat) (spare : Nat -> Bool) (held : Bool)
def Light(t:TypeId)(d:DataW H):Prop:=∀k∈d.weights P t,k<=reachBytes
def Leaf(t:TypeId)(v:Value):Prop:=∃n y,DataW.trod enc P w base spare held n t [v]=some y/\Light P t y.1
def Cells:List TypeId->List Value->Prop
 |[],[]=>True
 |t::ts,v::vs=>Leaf enc P w base spare held t v/\Cells ts vs
 |_,_=>False
end
section
variable {H : Type} {enc : TypeId × Value -> H} {P : Program} {w : World} {base : Nat} {spare : Nat -> Bool} {held : Bool}
def Cells.length:∀ {ts:List TypeId} {Z:List Value},Cells enc P w base spare held ts Z->Z.length=ts.length
 |[],[],_=>rfl
 |_::_,_::_,h=>by simp[Cells.length h.2]
 |[],_::_,h=>h.elim
 |_::_,[],h=>h.elim
def Cells.append:∀ {ts Z:List TypeId} {X Y:List Value},Cells enc P w base spare held ts X->Cells enc P w base spare held Z Y->Cells enc P w base spare held (ts++Z) (X++Y)
 |[],_,[],_,_,h'=>h'
 |_::_,_,_::_,_,h,h'=>⟨h.1,Cells.append h.2 h'⟩
 |[],_,_::_,_,h,_=>h.elim
 |_::_,_,[],_,h,_=>h.elim
def Cells.cons{t:TypeId}{ts:List TypeId}{Z:List Value}(h:Cells enc P w base spare held (t::ts) Z):∃v vs',Z=v::vs'/\Leaf enc P w base spare held t v/\Cells enc P w base spare held ts vs':=by
 cases Z with
 |nil=>exact h.elim
 |cons v vs'=>exact⟨v,vs',rfl,h.1,h.2⟩
def Cells.nR{Z:List Value}(h:Cells enc P w base spare held [] Z):Z=[]:=by
 cases Z with
 |nil=>rfl
 |cons v vs'=>exact h.elim
def KE(cs:List Value)(Z a b:Nat):(cs.drop Z).take (a+b)=(cs.drop Z).take a++(cs.drop (Z+a)).take b:=by
 rw[List.take_add,List.drop_drop]
def GH{α β:Type}{f:α->Option β}{a:α}{l:List α}{r:List β}(h:(a::l).mapM f=some r):∃b r',f a=some b/\l.mapM f=some r'/\r=b::r':=by
 rw[List.mapM_cons]at h
 cases hf:f a with
 |none=>simp[hf]at h
 |some b=>
  cases hl:l.mapM f with
  |none=>simp[hf,hl]at h
  |some r'=>simp[hf,hl]at h;exact⟨b,r',rfl,rfl,h.symm⟩
def O3{α β:Type}{f:α->Option β}:∀ {l:List α} {r:List β},l.mapM f=some r->∀a∈l,∃b,f a=some b/\b∈r
 |[],_,_,a,ha=>by cases ha
 |x::l,r,h,a,ha=>by
  obtain⟨b,V,W,X,rfl⟩:=GH h
  cases List.mem_cons.1 ha with
  |inl e=>subst e;exact⟨b,W,List.mem_cons_self⟩
  |inr e=>obtain⟨b',Y,Z⟩:=O3 X a e;exact⟨b',Y,List.mem_cons_of_mem _ Z⟩
def KD{e:TypeId}:∀ {Y:List (DataW H)},(∀k∈DataW.weightsAll P e Y,k<=reachBytes)->∀ {d:DataW H},d∈Y->Light P e d
 |[],_,_,hd=>by cases hd
 |x::Y,h,d,hd=>by
  simp only[DataW.weightsAll,List.mem_append]at h
  cases List.mem_cons.1 hd with
  |inl e=>subst e;exact fun k Z=>h k (Or.inl Z)
  |inr e=>exact KD (fun k Z=>h k (Or.inr Z)) e
def Ii{ts:List TypeId}{Z:List (DataW H)}(h:(DataW.weightsEach P ts Z).all (· <=reachBytes)=true){j:Nat}{t:TypeId}{d:DataW H}(X:ts[j]?=some t)(hd:Z[j]?=some d):Light P t d:=
 fun k Y=>by simpa using List.all_eq_true.1 h _ (DataW.weights_mem_each X hd k Y)
def OJ{d n:Nat}(W:∀t ls,leaves P d t=some ls->∀cs x,DataW.trod enc P w base spare held n t cs=some x->Light P t x.1->Cells enc P w base spare held ls cs)(cs:List Value):
  ∀(Y:List Field) (Z:Nat) (ls:List TypeId) (xs:List (DataW H×List MemPlace)),FB (leaves P d) P.cellsOf Z Y=some ls->
   Y.mapM (fun f=>DataW.trod enc P w base spare held n f.type ((cs.drop f.offset).take (P.cellsOf f.type)))=some xs->
   (∀k∈DataW.weightsEach P (Y.map (·.type)) (xs.map (·.1)),k<=reachBytes)->
   Cells enc P w base spare held ls ((cs.drop Z).take ls.length)
 |[],Z,ls,xs,hl,_,_=>by
  simp only[FB,Option.some.injEq]at hl;subst hl
  simp[Cells]
 |f::Y,Z,ls,xs,hl,h,hwt=>by
  obtain⟨b,O,V,T,rfl⟩:=GH h;simp only[List.map_cons,DataW.weightsEach,List.mem_append]at hwt
  unfold FB at hl
  cases hL:leaves P d f.type with
  |none=>simp[hL]at hl
  |some l=>
   simp only[hL]at hl
   split at hl
   .rename_i hc
    obtain⟨R,U⟩:=hc
    cases hr:FB (leaves P d) P.cellsOf (Z+l.length) Y with
    |none=>simp[hr]at hl
    |some r=>
     simp only[hr,Option.some.injEq]at hl;subst hl;rw[List.length_append,KE];rw[R,U]at V;exact Cells.append (W _ _ hL _ _ V (fun k X=>hwt k (Or.inl X))) (OJ W cs Y _ _ _ hr T (fun k X=>hwt k (Or.inr X)))
   cases hl
def Q9{l:List TypeId}{n:Nat}{e:TypeId}(Y:∀cs x,DataW.trod enc P w base spare held n e cs=some x->Light P e x.1->Cells enc P w base spare held l cs)(cs:List Value):
  ∀(m k:Nat),(∀i,i<k+m->∃y,DataW.trod enc P w base spare held n e ((cs.drop (i*l.length)).take l.length)=some y/\Light P e y.1)->
   Cells enc P w base spare held (List.replicate m l).flatten ((cs.drop (k*l.length)).take (m*l.length))
 |0,k,_=>by simp[Cells]
 |m+1,k,h=>by
  obtain⟨y,hy,Z⟩:=h k Aa;rw[List.replicate_succ,List.flatten_cons,Nat.succ_mul,Nat.add_comm (m*l.length),KE];refine Cells.append (Y _ _ hy Z) ?_
  have X:k*l.length+l.length=(k+1)*l.length:=by rw[Nat.succ_mul]
  rw[X];exact Q9 Y cs m (k+1) (fun i hi=>h i Aa)
def flat:∀(d:Nat) (t:TypeId) (ls:List TypeId),leaves P d t=some ls->∀(n:Nat) (cs:List Value) (x:DataW H×List MemPlace),DataW.trod enc P w base spare held n t cs=some x->Light P t x.1->Cells enc P w base spare held ls cs
 |0,_,_,h,_,_,_,_,_=>by simp[leaves]at h
 |d+1,t,ls,h,0,cs,x,Z,_=>by simp[DataW.trod]at Z
 |d+1,t,ls,h,n+1,cs,x,Z,hlight=>by
  have R:=Z
  unfold leaves at h
  unfold DataW.trod at Z
  cases hu:P.underlying t with
  |none=>simp[hu]at h
  |some u=>
   by_cases N:∃T,u=.struct T
   .obtain⟨T,rfl⟩:=N;simp only[hu]at h Z
    cases hf:FB (leaves P d) P.cellsOf 0 T.toList with
    |none=>simp[hf]at h
    |some l=>
     simp only[hf]at h
     split at h
     .rename_i hc
      simp only[Option.some.injEq]at h;subst h
      split at Z
      .rename_i hlen
       simp only[Option.map_eq_some_iff]at Z;obtain⟨xs,X,rfl⟩:=Z
       have W:∀k∈DataW.weightsEach P (T.toList.map (·.type)) (xs.map (·.1)),k<=reachBytes:=by simpa[Light,DataW.weights,hu] using hlight
       have:=OJ (fun t ls M cs x Z=>flat d t ls M n cs x Z) cs T.toList 0 l xs hf X W
       rwa[List.drop_zero,List.take_of_length_le Aa]at this
      cases Z
     cases h
   by_cases O:∃m e,u=.array m e
   .obtain⟨m,e,rfl⟩:=O;simp only[hu]at h Z
    cases hf:leaves P d e with
    |none=>simp[hf]at h
    |some l=>
     simp only[hf]at h
     split at h
     .rename_i hc
      simp only[Option.some.injEq]at h;subst h
      split at Z
      .rename_i hlen
       simp only[Option.map_eq_some_iff]at Z;obtain⟨xs,X,rfl⟩:=Z
       have W:∀k∈DataW.weightsAll P e (xs.map (·.1)),k<=reachBytes:=by simpa[Light,DataW.weights,hu] using hlight
       have:=Q9 (l:=l) (n:=n) (e:=e) (fun cs x Z=>flat d e l hf n cs x Z) cs m 0 (fun i hi=>by
        obtain⟨y,hy,U⟩:=O3 X i (List.mem_range.2 Aa);rw[hc.1]at hy
        exact⟨y,hy,KD W (List.mem_map.2 ⟨y,U,rfl⟩)⟩)
       rwa[Nat.zero_mul,List.drop_zero,List.take_of_length_le (by rw[hlen,hc.2];exact Nat.le_refl _)]at this
      cases Z
     cases h
   have V:ls=[t]:=by
    rw[hu]at h
    cases u<;>simp_all
   subst V
   have Y:∃v,cs=[v]:=by
    rw[hu]at Z
    split at Z<;>simp_all
   obtain⟨v,rfl⟩:=Y;exact⟨⟨n+1,x,R,hlight⟩,trivial⟩
def QN{t:TypeId}{ls:List TypeId}{v:Value}{d:DataW H}{Y:List MemPlace}(X:leaves P 20 t=some ls)(h:DataW.Trod enc P w base spare held t v d Y)(Z:Light P t d):Cells enc P w base spare held ls v.cells.toList:=by
 obtain⟨n,W⟩:=h;exact flat 20 t ls X n _ _ W Z
def MH{r:Reach}{Y:Nat}{t:TypeId}{v:Value}(X:(match P.underlying t with|some (.struct _)|some (.array _ _)=>true|_=>false)=true)(Z:Value.okWide P w r Y t v):∃cs:Array Value,v=.agg cs:=by
 unfold Value.okWide at Z
 split at Z
 . obtain⟨cs,h,_⟩:=Z;exact⟨cs,h⟩
 . obtain⟨cs,h,_⟩:=Z;exact⟨cs,h⟩
 split at X<;>simp_all
def Leaf.int{t:TypeId}{k:IntKind}{v:Value}(Y:P.underlying t=some (.int k))(h:Leaf enc P w base spare held t v):∃m,v=.int k m/\(Lit.int k m).wf=true:=by
 obtain⟨n,y,hy,_⟩:=h;obtain⟨m,Z,_,X⟩:=DataW.trod_int Y hy
 simp at Z
 exact⟨m,Z,X⟩
def Leaf.bool{t:TypeId}{v:Value}(Z:P.underlying t=some .bool)(h:Leaf enc P w base spare held t v):∃b,v=.bool b:=by
 obtain⟨n,y,hy,_⟩:=h
 cases n with
 |zero=>simp[DataW.trod]at hy
 |succ n=>
  unfold DataW.trod at hy
  rw[Z]at hy
  split at hy<;>simp_all
def wf_i64{m:Int}(h:(Lit.int .i64 m).wf=true): -9223372036854775808<=m/\m<=9223372036854775807:=by
 simpa[Lit.wf,IntKind.min,IntKind.max,IntKind.signed,IntKind.bits] using h
def wf_u8{m:Int}(h:(Lit.int .u8 m).wf=true):0<=m/\m<=255:=by
 simpa[Lit.wf,IntKind.min,IntKind.max,IntKind.signed,IntKind.bits] using h
def jS{a:Addr}{n:Nat}{cs:List Value}(h: w.cells? base a n=some cs):cs.length=n/\∀k,k<n-> w.cell? (a.add k)=cs[k]?:=by
 unfold World.cells? at h
 split at h
 .have Z:cs.length=n:=by
   have:∀(l:List Nat) (r:List Value),l.mapM (fun i=> w.cell? (a.add i))=some r->r.length=l.length:=by
    intro l
    induction l with
    |nil=>intro r h;simp at h;simp[h.symm]
    |cons x l ih=>intro r h;obtain⟨b,V,_,Y,rfl⟩:=GH h;simp[ih _ Y]
   simpa using this _ _ h
  refine⟨Z,fun k X=>?_⟩
  have:∀(l:List Nat) (r:List Value),l.mapM (fun i=> w.cell? (a.add i))=some r->∀(j x:Nat),l[j]?=some x-> w.cell? (a.add x)=r[j]?:=by
   intro l
   induction l with
   |nil=>intro r h j x W;simp at W
   |cons x l ih=>
    intro r h j y hy;obtain⟨b,V,U,Y,rfl⟩:=GH h
    cases j with
    |zero=>simp at hy;subst hy;simpa using U
    |succ j=>simp at hy;simpa using ih _ Y j y hy
  exact this _ _ h k k (by simp[X])
 cases h
def add_lit(b o:Nat)(s:Option Nat)(n:Nat)(h:s=none):(⟨b,o,s⟩:Addr).add n=⟨b,o+n,none⟩:=by
 subst h;unfold Addr.add;split<;>simp_all
def Leaf.slice{t e:TypeId}{v:Value}{le:List TypeId}(ht:P.underlying t=some (.slice e))(qU:leaves P 20 e=some le)(z:P.cellsOf e=le.length)(X:0<le.length)(R:∀b,spare b=true)(h:Leaf enc P w base spare held t v):
  ∃(A:Option Addr) (n c:Nat) (xs:List Value),v=.slice A n c/\n<=c/\c<=maxLen/\c*P.bytesOf e<=reachBytes/\(A=none->c=0)/\Rd w w.heap.size le.length A n xs/\
   ∀i,i<n->Cells enc P w base spare held le ((xs.drop (i*le.length)).take le.length):=by
 obtain⟨qV,y,hy,Z⟩:=h
 rcases Deep.open_slice ht hy with⟨W,_⟩|⟨a,len,cap,m,n,D,Pl,W,hb,J,qQ,hm,rfl,r⟩
 .simp at W
  subst W;exact⟨none,0,0,[],rfl,Aa,Aa,Aa,fun _=>rfl,Rd.nil _ _ _ _,fun i hi=>by omega⟩
 simp at W
 subst W
 have x:m=cap:=by rw[hm,Ao (R _)]
 subst x;clear hm;have qW:len<=m:=J;simp only[Light,DataW.weights,ht,List.length_map,List.length_range,List.mem_cons,List.mem_append]at Z
 have V:m*P.bytesOf e<=reachBytes:=by
  have:=Z _ (Or.inl rfl)
  rwa[show len+(m-len)=m by omega]at this
 have p:∀k∈DataW.weightsAll P e ((List.range len).map D),k<=reachBytes:=fun k hk=>Z k (Or.inr (Or.inl hk))
 have d:∀i,i<len->∃cs':List Value,(cs'.length=le.length/\∀k,k<le.length-> w.cell? ((a.add (i*le.length)).add k)=cs'[k]?)/\Cells enc P w base spare held le cs':=by
  intro i hi;obtain⟨cs',N,o⟩:=r i Aa;rw[z]at N;exact⟨cs',jS N,flat 20 e le qU _ _ _ o (KD p (List.mem_map.2 ⟨i,List.mem_range.2 hi,rfl⟩))⟩
 obtain⟨f,E⟩:=Deep.choose_lt d;have Y:∀i,i<len->(f i).length=le.length:=fun i hi=>(E i hi).1.1
 have M:∀k,k<=len->(((List.range k).map f).flatten).length=k*le.length/\∀i,i<k->((((List.range k).map f).flatten).drop (i*le.length)).take le.length=f i:=by
  intro k
  induction k with
  |zero=>intro _;simp
  |succ k ih=>
   intro hk;obtain⟨N,o⟩:=ih Aa;rw[List.range_succ,List.map_append,List.flatten_append];simp only[List.map_cons,List.map_nil,List.flatten_cons,List.flatten_nil,List.append_nil];refine⟨by rw[List.length_append,N,Y k Aa,Nat.succ_mul],fun i hi=>?_⟩
   by_cases C:i=k
   .subst C;rw[List.drop_append,N,List.drop_of_length_le Aa];simp only[Nat.sub_self,List.drop_zero,List.nil_append];exact List.take_of_length_le (by rw[Y i Aa];exact Nat.le_refl _)
   have F:i<k:=Aa;have G:(i+1)*le.length<=k*le.length:=Nat.mul_le_mul_right _ F;rw[Nat.succ_mul]at G;rw[List.drop_append_of_le_length Aa,List.take_append_of_le_length (by rw[List.length_drop,N];omega)];exact o i F
 obtain⟨q,I⟩:=M len Nr;refine⟨some a,len,m,((List.range len).map f).flatten,rfl,J,qQ,V,Bq,⟨q,fun hn=>?_⟩,fun i hi=>?_⟩
 .have O:=(E 0 hn).1.2 0 X;have T:∃u,(f 0)[0]?=some u:=⟨(f 0)[0]'(by rw[Y 0 hn];exact X),List.getElem?_eq_getElem _⟩;obtain⟨u0,qR⟩:=T;rw[Nat.zero_mul]at O
  have ha:(a.add 0).add 0=a:=by simp[Addr.add]
  rw[ha,qR]at O;obtain⟨ab,ao,L⟩:=a
  have R:L=none:=by
   unfold World.cell? at O
   split at O
   . cases L<;>simp_all
   cases O
  have l:ab<w.heap.size:=block_lt_of_cell O;subst R;refine⟨ab,ao,rfl,l,fun j u hu=>?_⟩
  have hj:j<len*le.length:=by
   have:=(List.getElem?_eq_some_iff.1 hu).1;omega
  have qX:=Nat.div_add_mod j le.length;have hi:j/le.length<len:=Nat.div_lt_of_lt_mul (by rw[Nat.mul_comm];exact hj);have U:j%le.length<le.length:=Nat.mod_lt _ X;have s:=(E _ hi).1.2 _ U;rw[add_lit _ _ _ _ rfl,add_lit _ _ _ _ rfl]at s
  have e1:ao+j/le.length*le.length+j%le.length=ao+j:=by rw[Nat.mul_comm];omega
  rw[e1]at s;rw[s,←I _ hi,List.getElem?_take,Ao U,List.getElem?_drop]
  have e2:j/le.length*le.length+j%le.length=j:=by rw[Nat.mul_comm];omega
  rw[e2];exact hu
 rw[I i hi];exact(E i hi).2
end
def SN{H:Type}{enc:TypeId×Value->H}{P:Program}{w:World}{base:Nat}{spare:Nat->Bool}{held:Bool}{t:TypeId}{n:Nat}{xs:List Value}(Y:xs.length=n*1)(h:∀i,i<n->Cells enc P w base spare held [t] ((xs.drop (i*1)).take 1)):∀x∈xs,Leaf enc P w base spare held t x:=by
 intro x Z;obtain⟨i,hi,rfl⟩:=List.getElem_of_mem Z;have:=h i Aa;rw[Nat.mul_one,List.drop_eq_getElem_cons hi]at this;exact this.1
def ZA{H:Type}{enc:TypeId×Value->H}{P:Program}{w:World}{base:Nat}{spare:Nat->Bool}{held:Bool}{t:TypeId}{k:IntKind}(X:P.underlying t=some (.int k)):
  ∀ {xs:List Value},(∀x∈xs,Leaf enc P w base spare held t x)->∃Z:List Int,xs=Z.map (Value.int k)/\∀z∈Z,(Lit.int k z).wf=true
 |[],_=>⟨[],rfl,Bq⟩
 |x::xs,h=>by
  obtain⟨Z,rfl,V⟩:=ZA X (fun y hy=>h y (List.mem_cons_of_mem _ hy));obtain⟨m,rfl,W⟩:=Leaf.int X (h x List.mem_cons_self);exact⟨m::Z,rfl,by intro z Y;cases List.mem_cons.1 Y with|inl e=>subst e;exact W|inr e=>exact V z e⟩
def Leaf.ints{H:Type}{enc:TypeId×Value->H}{P:Program}{w:World}{base:Nat}{spare:Nat->Bool}{held:Bool}{t e:TypeId}{v:Value}{k:IntKind}(U:P.underlying t=some (.slice e))(V:P.underlying e=some (.int k))(Y:P.cellsOf e=1)(X:∀b,spare b=true)(h:Leaf enc P w base spare held t v):∃(A:Option Addr) (c:Nat) (Z:List Int),v=.slice A Z.length c/\Z.length<=c/\c<=maxLen/\c*P.bytesOf e<=reachBytes/\(A=none->c=0)/\Rd w w.heap.size 1 A Z.length (Z.map (Value.int k))/\∀z∈Z,(Lit.int k z).wf=true:=by
 obtain⟨A,n,c,xs,rfl,R,T,O,M,W,J⟩:=Leaf.slice (le:=[e]) U (by simp[leaves,V]) Y Bq X h;obtain⟨Z,rfl,L⟩:=ZA V (SN (by simpa using W.1) J)
 have N:n=Z.length:=by have:=W.1;simp at this;omega
 subst N;exact⟨A,c,Z,rfl,R,T,O,M,W,L⟩
end Op
namespace Ms
open Go.ChangeShapes Go.WideShapes Go.ChangeAt Go.RowKit Mem
def AQ(Z:List Int):List Value:=Z.map (Value.int .i64)
def DJ(Z:List Int)(k:Nat)(Y:k<Z.length):(AQ Z)[k]?=some (.int .i64 Z[k]):=by simp[AQ,Y]
def LH(Z:List Int):∀u∈AQ Z,u.oneCell'=true:=fun u Y=>by
 obtain⟨z,_,rfl⟩:=List.mem_map.1 Y;rfl
def C8:Elem prog 63 3 (.int .i64 0) 1 8:=⟨underlying63,Ap,rfl,Aa⟩
def Jg(k f n:Int)(A:Option Addr)(l c:Nat):Value:=.agg (BL k f n A l c)
def AR(k f n:Int)(A:Option Addr)(l c:Nat):Array Value:=(BL k f n A l c)
def wrong(k f n:Int)(l:Nat):Int:=if k<1\/5<k then 4 else if f<0\/3<f\/n<0\/2147483647<n then 3 else if 24<l then 6 else 0
end Ms
namespace Flat
open Go.RowKit Mem
def I9(P:Program)(L:TypeId->Option (List Bool)):Nat->List Field->Option (List Bool)
 |_,[]=>some []
 |off,f::fs=>
  match L f.type with
  |none=>none
  |some l=>
   if f.offset=off/\f.name≠ "_" /\(P.info? f.type).map (·.size)=some l.length then
    match I9 P L (off+l.length) fs with
    |none=>none
    |some r=>some (l++r)
   else none
def RO(P:Program):Nat->TypeId->Option (List Bool)
 |0,_=>none
 |d+1,t=>
  match P.underlying t with
  |some .bool=>some [false]
  |some (.int _)=>some [true]
  |some (.struct fs)=>if P.stoodInHeld t=false then I9 P (RO P d) 0 fs.toList else none
  |some (.array n e)=>
   match RO P d e with
   |none=>none
   |some l=>if(P.info? e).map (·.size)=some l.length then some (List.replicate n l).flatten else none
  |_=>none
def Typed:List Bool->List Value->Prop
 |[],[]=>True
 |b::bs,v::vs=>(match b with|true=>∃k n,v=Value.int k n|false=>∃c,v=Value.bool c)/\Typed bs vs
 |_,_=>False
def Typed.length:∀ {Y:List Bool} {Z:List Value},Typed Y Z->Z.length=Y.length
 |[],[],_=>rfl
 |_::_,_::_,h=>by simp[Typed.length h.2]
 |[],_::_,h=>h.elim
 |_::_,[],h=>h.elim
def Typed.split:∀ {a b:List Bool} {Z:List Value},Typed (a++b) Z->Typed a (Z.take a.length)/\Typed b (Z.drop a.length)
 |[],_,_,h=>⟨by simp[Typed],h⟩
 |_::a,b,[],h=>h.elim
 |x::a,b,v::Z,h=>by
  obtain⟨W,X⟩:=h;obtain⟨V,Y⟩:=Typed.split (a:=a) X;exact⟨⟨W,by simpa using V⟩,by simpa using Y⟩
section
variable {P : Program}
def Tc{t:TypeId}{d:TypeDesc}(Z:P.underlying t=some d)(w:World):(isAgg t).run P w=.ok d.isRow w:=by
 unfold isAgg
 rw[Sem.run_bind,run_underlying Z w]
 cases d<;>rfl
def II{t:TypeId}{d:TypeDesc}(W:P.underlying t=some d)(Y:d.isRow=true){n:Nat}(hi:(P.info? t).map (·.size)=some n)(cs:Array Value)(Z:Nat)(w:World):
  (part t cs Z).run P w=.ok (.agg (cs.extract Z (Z+n))) w:=by
 obtain⟨i,hq,X⟩:=Option.map_eq_some_iff.1 hi
 unfold part
 simp[Sem.run_bind,Tc W,Y,sizeOf,typeInfo,hq,X]
def Ke{t:TypeId}{d:TypeDesc}(W:P.underlying t=some d)(X:d.isRow=false)(cs:Array Value)(Z:Nat)(v:Value)(Y:cs[Z]?=some v)(w:World):
  (part t cs Z).run P w=.ok v w:=by
 unfold part
 simp[Sem.run_bind,Tc W,X,Y]
def Refl(P:Program)(d:Nat)(t:TypeId)(ls:List Bool):Prop:=
 ∀(xs:Array Value) (Z:Nat),Typed ls ((xs.toList.drop Z).take ls.length)->(P.info? t).map (·.size)=some ls.length->∀w:World,∃v,(part t xs Z).run P w=.ok v w/\∀d',d<=d'->(Op.equalIn d' t v v).run P w=.ok true w
def O0{d:Nat}{L:TypeId->Option (List Bool)}(U:∀t ls,L t=some ls->Refl P d t ls)(xs:Array Value){d':Nat}(V:d<=d')(w:World):
  ∀(Y:List Field) (Z:Nat) (ls:List Bool),I9 P L Z Y=some ls->Typed ls ((xs.toList.drop Z).take ls.length)->(Op.eqFields d' xs xs Y).run P w=.ok true w
 |[],_,_,_,_=>by simp[Op.eqFields]
 |f::Y,Z,ls,h,ht=>by
  unfold I9 at h
  cases hL:L f.type with
  |none=>simp[hL]at h
  |some l=>
   simp only[hL]at h
   split at h
   .rename_i hc
    obtain⟨I,J,O⟩:=hc
    cases hr:I9 P L (Z+l.length) Y with
    |none=>simp[hr]at h
    |some r=>
     simp only[hr,Option.some.injEq]at h;subst h;obtain⟨X,W⟩:=ht.split
     have N:((xs.toList.drop Z).take (l++r).length).take l.length=(xs.toList.drop Z).take l.length:=by
      rw[List.take_take,List.length_append,Nat.min_eq_left Aa]
     have T:((xs.toList.drop Z).take (l++r).length).drop l.length=(xs.toList.drop (Z+l.length)).take r.length:=by
      rw[List.length_append,List.drop_take,List.drop_drop]
      congr 1;omega
     rw[N]at X;rw[T]at W;obtain⟨v,M,R⟩:=U _ _ hL xs Z X O w
     unfold Op.eqFields
     rw[Ao J,I];simp only[Sem.run_bind,M,Result.andThen_ok,R d' V,Bool.not_true,Bool.false_eq_true,if_false];exact O0 U xs V w Y _ _ hr W
   cases h
def QG{d e:Nat}{l:List Bool}(V:Refl P d e l)(Y:(P.info? e).map (·.size)=some l.length)(xs:Array Value){d':Nat}(W:d<=d')(w:World)(n:Nat):
  ∀(m k:Nat),k+m<=n->Typed (List.replicate m l).flatten ((xs.toList.drop (k*l.length)).take (m*l.length))->
   ∀b:Option Bool×Unit,b.1=none->(forIn (m:=Sem) (List.range' k m) b (fun i _=>do
    let a←part e xs (i*l.length)
    let c←part e xs (i*l.length)
    let r←Op.equalIn d' e a c
    if(!r)=true then pure (ForInStep.done (some false,()))else pure (ForInStep.yield (none,())))).run P w=.ok (none,()) w
 |0,k,_,_,b,hb=>by
  obtain⟨M,N⟩:=b
  simp only at hb
  subst hb
  simp
 |m+1,k,hk,ht,b,hb=>by
  rw[List.replicate_succ,List.flatten_cons]at ht;obtain⟨Z,X⟩:=ht.split
  have R:((xs.toList.drop (k*l.length)).take ((m+1)*l.length)).take l.length=(xs.toList.drop (k*l.length)).take l.length:=by
   rw[List.take_take,Nat.succ_mul,Nat.min_eq_left Aa]
  have U:((xs.toList.drop (k*l.length)).take ((m+1)*l.length)).drop l.length=(xs.toList.drop ((k+1)*l.length)).take (m*l.length):=by
   rw[List.drop_take,List.drop_drop,Nat.succ_mul,Nat.succ_mul]
   congr 1;omega
  rw[R]at Z;rw[U]at X;obtain⟨v,O,T⟩:=V xs (k*l.length) Z Y w;rw[List.range'_succ,List.forIn_cons];simp only[Sem.run_bind,O,Result.andThen_ok,T d' W,Bool.not_true,Bool.false_eq_true,if_false,Sem.run_pure];exact QG V Y xs W w n m (k+1) Aa X _ rfl
def K9(n:Nat)(l:List Bool):((List.replicate n l).flatten).length=n*l.length:=Bq
def refl:∀(d:Nat) (t:TypeId) (ls:List Bool),RO P d t=some ls->Refl P d t ls
 |0,_,_,h=>by simp[RO]at h
 |d+1,t,ls,h=>by
  intro xs Z X M w
  unfold RO at h
  cases hu:P.underlying t with
  |none=>simp[hu]at h
  |some u=>
   rw[hu]at h
   cases u with
   |bool=>
    simp only[Option.some.injEq]at h;subst h
    obtain⟨v,V⟩:∃v,xs[Z]?=some v:=by
     cases hx:xs[Z]? with
     |some v=>exact⟨v,rfl⟩
     |none=>
      have:=X.length
      simp at this hx
      omega
    have W:∃c,v=Value.bool c:=by
     have e:(xs.toList.drop Z).take 1=[v]:=by
      have U:Z<xs.toList.length:=by
       have:=(Array.getElem?_eq_some_iff.1 V).1
       simpa using this
      rw[List.drop_eq_getElem_cons U,List.take_succ_cons,List.take_zero]
      congr 1
      have:=(Array.getElem?_eq_some_iff.1 V).2
      simpa using this
     rw[show [false].length=1 from rfl,e]at X
     exact X.1
    obtain⟨c,rfl⟩:=W;refine⟨_,Ke hu rfl xs Z _ V w,fun d' N=>?_⟩;obtain⟨Y,rfl⟩:∃Y,d'=Y+1:=⟨d'-1,Aa⟩;rw[run_equalIn_bool' w Y t c c hu]
    simp
   |int k=>
    simp only[Option.some.injEq]at h;subst h
    obtain⟨v,V⟩:∃v,xs[Z]?=some v:=by
     cases hx:xs[Z]? with
     |some v=>exact⟨v,rfl⟩
     |none=>
      have:=X.length
      simp at this hx
      omega
    have W:∃k n,v=Value.int k n:=by
     have e:(xs.toList.drop Z).take 1=[v]:=by
      have U:Z<xs.toList.length:=by
       have:=(Array.getElem?_eq_some_iff.1 V).1
       simpa using this
      rw[List.drop_eq_getElem_cons U,List.take_succ_cons,List.take_zero]
      congr 1
      have:=(Array.getElem?_eq_some_iff.1 V).2
      simpa using this
     rw[show [true].length=1 from rfl,e]at X
     exact X.1
    obtain⟨I,n,rfl⟩:=W;refine⟨_,Ke hu rfl xs Z _ V w,fun d' N=>?_⟩;obtain⟨Y,rfl⟩:∃Y,d'=Y+1:=⟨d'-1,Aa⟩;rw[run_equalIn_int w Y t I k n n hu]
    simp
   |struct fs=>
    simp only at h
    split at h
    .rename_i hp
     refine⟨_,II hu rfl M xs Z w,fun d' N=>?_⟩;obtain⟨Y,rfl⟩:∃Y,d'=Y+1:=⟨d'-1,Aa⟩
     have G:P.underlying t=some (.struct (P.fieldsOf t)):=by simp[Program.fieldsOf,hu]
     rw[run_equalIn_struct w Y t _ _ G hp]
     have O:P.fieldsOf t=fs:=by simp[Program.fieldsOf,hu]
     rw[O];refine O0 (fun t ls T=>refl d t ls T) _ Aa w _ 0 ls h ?_
     have e:(((xs.extract Z (Z+ls.length)).toList.drop 0).take ls.length)=(xs.toList.drop Z).take ls.length:=by
      simp[List.take_take,Array.toList_extract]
     rw[e];exact X
    . cases h
   |array n e=>
    simp only at h
    cases T:RO P d e with
    |none=>simp[T]at h
    |some l=>
     simp only[T]at h
     split at h
     .rename_i hse
      simp only[Option.some.injEq]at h;subst h;refine⟨_,II hu rfl M xs Z w,fun d' N=>?_⟩;obtain⟨Y,rfl⟩:∃Y,d'=Y+1:=⟨d'-1,Aa⟩;obtain⟨i,hq,R⟩:=Option.map_eq_some_iff.1 hse
      have J:=QG (d':=Y) (refl d e l T) hse (xs.extract Z (Z+(List.replicate n l).flatten.length)) Aa w n n 0 Aa (by
       have L:(((xs.extract Z (Z+(List.replicate n l).flatten.length)).toList.drop (0*l.length)).take (n*l.length))=(xs.toList.drop Z).take (List.replicate n l).flatten.length:=by
        rw[K9]
        simp[List.take_take,Array.toList_extract]
       rw[L];exact X) (none,()) rfl
      unfold Op.equalIn
      simp only[Sem.run_bind,run_underlying hu,Result.andThen_ok,sizeOf,typeInfo,run_program,hq,R,Sem.run_pure];rw[Std.Legacy.Range.forIn_eq_forIn_range']
      rw[show(List.range' [:n].start [:n].size [:n].step)=List.range' 0 n from by simp[Std.Legacy.Range.size]]
      rw[J];rfl
     . cases h
   |_=>simp at h
end
end Flat
end Go.Proofs.YtjobajeggllmiaaGreat
