/- The law ClusterFrames returns true: cluster.Frame and the reference's Frame answer one and the same for every cluster and every input, what is refused too; and the first frame's number is 1. Conditions: none. -/
import Derived.Test.YtjobajeggllmiaaGreatPc0
import Derived.Test.YtjobajeggllmiaaGreatPc46
set_option linter.all false
set_option maxHeartbeats 100000000
set_option maxRecDepth 100000
namespace Go.Proofs.YtjobajeggllmiaaGreat
open Rg _root_.Go.Proofs.Tryz
namespace Op
open Go.ChangeShapes Go.WideShapes Go.ChangeAt Go.RowKit Mem Rws Nd
section
variable {H : Type} {enc : TypeId × Value -> H} {P : Program} {w : World} {base : Nat} {spare : Nat -> Bool} {held : Bool}
def Cells.get:∀ {ts:List TypeId} {Z:List Value},Cells enc P w base spare held ts Z->∀(i:Nat) (t:TypeId),ts[i]?=some t->∃v,Z[i]?=some v/\Leaf enc P w base spare held t v
 |[],_,_,i,t,h=>by simp at h
 |_::_,[],h,_,_,_=>h.elim
 |t0::ts,v::Z,h,0,t,e=>by
  simp at e;subst e;exact⟨v,rfl,h.1⟩
 |t0::ts,v::Z,h,i+1,t,e=>by
  simp at e
  obtain⟨u,X,Y⟩:=Cells.get h.2 i t e;exact⟨u,by simpa using X,Y⟩
def UU{t:TypeId}(Y:P.underlying t=some .bool):∀ {Z:List Value},(∀x∈Z,Leaf enc P w base spare held t x)->∃X:List Bool,Z=Au X
 |[],_=>⟨[],rfl⟩
 |x::Z,h=>by
  obtain⟨W,rfl⟩:=UU Y (fun y hy=>h y (List.mem_cons_of_mem _ hy));obtain⟨m,rfl⟩:=Leaf.bool Y (h x List.mem_cons_self);exact⟨m::W,rfl⟩
def Leaf.bools{t e:TypeId}{v:Value}(T:P.underlying t=some (.slice e))(V:P.underlying e=some .bool)(Y:P.cellsOf e=1)(X:∀b,spare b=true)(h:Leaf enc P w base spare held t v):∃(A:Option Addr) (c:Nat) (Z:List Bool),v=.slice A Z.length c/\Z.length<=c/\c<=maxLen/\c*P.bytesOf e<=reachBytes/\(A=none->c=0)/\Rd w w.heap.size 1 A Z.length (Au Z):=by
 obtain⟨A,n,c,I,rfl,O,R,N,L,W,J⟩:=Leaf.slice (le:=[e]) T (by simp[leaves,V]) Y Bq X h;obtain⟨U,rfl⟩:=UU V (SN (by simpa using W.1) J)
 have M:n=U.length:=by have:=W.1;simp[Au]at this;omega
 subst M;exact⟨A,c,U,rfl,O,R,N,L,W⟩
end
def Ws(P:Program)(t:TypeId):Option Bool:=match P.underlying t with
 |some (.int .i64)=>some true
 |some .bool=>some false
 |_=>none
def Yr:(leaves prog 20 37).map (fun ls=>(ls.length,(List.range 73).map (fun i=>(ls[i]?).bind (Ws prog)),ls[73]?))=some (74,(List.range 73).map (fun i=>some (Ar i)),some 33):=Ap
end Op
namespace Cf
open Go.ChangeShapes Go.WideShapes Go.ChangeAt Go.RowKit Mem Go.Proofs.YtjobajeggllmiaaGreat.Op Rws Nd Cl
def XW:leaves prog 20 40=(leaves prog 20 37).map fun l=>3::(l++(l++(l++l))):=Ap
def V7{α:Type}(a:α){l:List α}(Y:l.length=74){k i:Nat}(Z:k<4)(hi:i<74):(a::(l++(l++(l++l))))[1+k*74+i]?=l[i]?:=by
 rw[show 1+k*74+i=(k*74+i)+1 by omega,List.getElem?_cons_succ]
 obtain rfl|rfl|rfl|rfl:k=0\/k=1\/k=2\/k=3:=Aa
 . rw[List.getElem?_append_left Aa,show 0*74+i=i by omega]
 . rw[List.getElem?_append_right Aa,List.getElem?_append_left Aa,show 1*74+i-l.length=i by omega]
 . rw[List.getElem?_append_right Aa,List.getElem?_append_right Aa,List.getElem?_append_left Aa,show 2*74+i-l.length-l.length=i by omega]
 rw[List.getElem?_append_right Aa,List.getElem?_append_right Aa,List.getElem?_append_right Aa,show 3*74+i-l.length-l.length-l.length=i by omega]
def kY{H:Type}{enc:TypeId×Value->H}{W:World}{base:Nat}{v:Value}{d:DataW H}{ps:List MemPlace}(hv:Value.okWide prog W .any base 40 v)(h:DataW.Trod enc prog W 0 (fun _=>true) true 40 v d ps)(hl:Op.Light prog 40 d):
  ∃(c:Du) (s:Nat->Option Addr) (E:Nat->Nat),v=.agg (row 297 (Ak c.fr c.F (AO s c.V E)))/\(∀i,i<4->∀j,j<73->C9 (Ar j) (c.F i j))/\(∀i,i<4->∀j z,j<73->c.F i j=.int .i64 z->Wf z)/\Wf c.fr/\∀i,i<4->(s i=none->E i=0)/\(c.V i).length<=E i/\E i<=140737488351232/\Rd W W.heap.size 1 (s i) (c.V i).length (Au (c.V i)):=by
 obtain⟨cs,rfl⟩:=Op.MH (t:=40) (by rw[underlying40]) hv;have G:=Yr;obtain⟨ls,C,G⟩:=Option.map_eq_some_iff.1 G;simp only[Prod.mk.injEq]at G;obtain⟨T,R,O⟩:=G;have J:=XW;rw[C,Option.map_some]at J;have k:=Op.QN J h hl;have kl:=Cells.length k
 have D:cs.size=297:=by
  have:(Value.agg cs).cells.toList.length=cs.size:=by simp[Value.cells]
  simp only[List.length_cons,List.length_append,T]at kl;omega
 have Y:∀(i:Nat) (v:Value),(Value.agg cs).cells.toList[i]?=some v↔cs[i]?=some v:=fun i v=>by simp[Value.cells]
 obtain⟨x0,y,l0⟩:=Cells.get k 0 _ (List.getElem?_cons_zero ..);obtain⟨b,rfl,B⟩:=l0.int underlying3
 obtain⟨g,L⟩:=Deep.choose_lt (n:=4) (p:=fun k (x:Option Addr×Nat×List Bool)=>cs[1+k*74+73]?=some (.slice x.1 x.2.2.length x.2.1)/\x.2.2.length<=x.2.1/\x.2.1<=140737488351232/\(x.1=none->x.2.1=0)/\Rd W W.heap.size 1 x.1 x.2.2.length (Au x.2.2)) (fun j U=>by
  obtain⟨x,hx,lx⟩:=Cells.get k (1+j*74+73) _ ((V7 _ T U Aa).trans O);obtain⟨A,c,bs,rfl,h1,h2,l,h4,h5⟩:=lx.bools underlying33 underlying4 Ap (fun _=>rfl)
  rw[show prog.bytesOf 4=1 from by kernel_rfl]at l
  exact⟨(A,c,bs),(Y _ _).1 hx,h1,by show c<=_;unfold reachBytes at l;omega,h4,h5⟩)
 have X:∀j,j<4->∀i,i<73->C9 (Ar i) (cs.getD (1+j*74+i) undef)/\∀z,cs.getD (1+j*74+i) undef=.int .i64 z->(Lit.int .i64 z).wf=true:=by
  intro j U i hi;have I:=congrArg (·[i]?) R
  simp[hi]at I
  obtain⟨t,f,Z⟩:=Option.bind_eq_some_iff.1 I;obtain⟨u,hu,o⟩:=Cells.get k (1+j*74+i) t ((V7 _ T U Aa).trans f)
  have r:cs.getD (1+j*74+i) undef=u:=by have:=(Y _ _).1 hu;simp[Array.getD_eq_getD_getElem?,this]
  rw[r]
  unfold Ws at Z
  split at Z
  . next e=>simp at Z;rw[Z];obtain⟨m,rfl,hw⟩:=o.int e;exact⟨⟨m,rfl⟩,fun z N=>by injection N with _ N;subst N;exact hw⟩
  . next e=>simp at Z;rw[Z];obtain⟨m,rfl⟩:=o.bool e;exact⟨⟨m,rfl⟩,fun z N=>by cases N⟩
  cases Z
 refine⟨⟨b,fun j i=>cs.getD (1+j*74+i) undef,fun j=>(g j).2.2⟩,fun j=>(g j).1,fun j=>(g j).2.1,?_,fun j U i hi=>(X j U i hi).1,fun j U i z hi N=>(X j U i hi).2 z N,B,fun j U=>⟨(L j U).2.2.2.1,(L j U).2.1,(L j U).2.2.1,(L j U).2.2.2.2⟩⟩;refine congrArg Value.agg (Array.ext_getElem? fun i=>?_)
 by_cases hi:i<297
 .rw[Ah hi]
  unfold Ak
  by_cases q:i=0
  . subst q;rw[Ao rfl];exact(Y _ _).1 y
  rw[Aj q]
  unfold Ab
  by_cases M:(i-1)%74=73
  .rw[Ao M];have:=(L ((i-1)/74) Aa).1
   rw[show 1+(i-1)/74*74+73=i by omega]at this
   exact this
  rw[Aj M]
  show cs[i]?=some (cs.getD (1+(i-1)/74*74+(i-1)%74) undef)
  rw[show 1+(i-1)/74*74+(i-1)%74=i by omega]
  simp[Array.getD,D,hi]
 rw[Array.getElem?_eq_none Aa,Array.getElem?_eq_none (by rw[Ag];omega)]
def oq{H:Type}{enc:TypeId×Value->H}{W:World}{base:Nat}{v:Value}{d:DataW H}{V:List MemPlace}(U:Value.okWide prog W .any base 43 v)(h:DataW.Trod enc prog W 0 (fun _=>true) true 43 v d V)(hl:Op.Light prog 43 d):
  ∃(x:He) (Y:Option Addr) (Z:Nat),v=.agg (row 14 (BP x.rd x.bad (.slice Y x.ls.length Z)))/\(Y=none->Z=0)/\x.ls.length<=Z/\Z*40<=140737488351232/\Co W W.heap.size Y x.ls/\(∀i,i<12->Wf (x.rd i))/\Wf x.bad:=by
 obtain⟨cs,rfl⟩:=Op.MH (t:=43) (by rw[underlying43]) U;have k:=Op.QN (ls:=[3,3,3,3,3,3,3,3,3,3,3,3,3,41]) Ap h hl;obtain⟨x,Y,Z,e,R,T,O,N,M,L,_⟩:=in_of_cells (fun _=>rfl) k;refine⟨x,Y,Z,congrArg Value.agg ?_,R,T,O,N,M,L⟩
 have X:cs.toList=(row 14 (BP x.rd x.bad (.slice Y x.ls.length Z))).toList:=by simpa[Value.cells,nu] using e
 exact Array.toList_inj.1 X
end Cf
namespace Cf
open Go.ChangeShapes Go.WideShapes Go.ChangeAt Go.RowKit Mem Rws Nd Cl
open Classical in
def VH{c:Du}{x:He}(Y:l5 c):Rj c x<=4/\∀k,k<Rj c x->∃g:Nat->Value,(∀i,i<14->(WE c x)[k*14+i]?=some (EQ g i))/\∀i,i<73->C9 (Ar i) (g i):=by
 unfold Rj WE
 by_cases h:codeOf c x=0
 .rw[Ao h,Ao h];obtain⟨X,_,_⟩:=Ic Y h;refine⟨Hl x.bad 4,fun k Z=>⟨G6 c x ((Bz x.bad 4).getD k 0),fun i hi=>?_,?_⟩⟩
  . exact Px (G6 c x) (Bz x.bad 4) k i Z hi
  exact WV (YA (x:=x) X 5 Aa) _ (SA x.bad 4 k Z).1
 rw[Aj h,Aj h];exact⟨Aa,fun k Z=>absurd Z Aa⟩
def aA(c:Du)(x:He)(T:l5 c)(M:∀i,i<12->Wf (x.rd i))(W:Nat->Option Addr)(X:Nat->Nat)(U:Option Addr)(R:Nat)(w:World)(hv:∀i,i<4->(W i=none->X i=0)/\(c.V i).length<=X i/\Rd w w.heap.size 1 (W i) (c.V i).length (Au (c.V i)))(hls:Co w w.heap.size U x.ls):
  Calls prog 5 #[.agg (row 297 (Ak c.fr c.F (AO W c.V X))),.agg (row 14 (BP x.rd x.bad (.slice U x.ls.length R)))] w fun e w'=>Qg w.heap.size w w' (Bd c x) (Rj c x) (WE c x) (codeOf c x) e:=by
 by_cases h:codeOf c x=0
 .obtain⟨G,hb,A⟩:=Ic T h;refine(Oj c x G hb M A W X U R w hv hls).mono ?_;rintro e w' ⟨L,O,E,D,I,Y,Z,C⟩
  unfold Bd Rj WE
  rw[Ao h,Ao h,Ao h,h];exact⟨L,O,E,D,I,fun i hi=>⟨(Y i hi).1,(Y i hi).2.1,(Y i hi).2.2.1⟩,Rd.Bu Z,C,fun i hi=>(Y i hi).2.2.2,Db Z⟩
 have N:∀(k:Int) (e:Ending) (w':World),codeOf c x=k->e=.returned (.tuple #[.agg zeroCells40,.slice none 0 0,.int .i64 k])/\Below w.heap.size w w'->Qg w.heap.size w w' (Bd c x) (Rj c x) (WE c x) (codeOf c x) e:=fun k e w' J ⟨Y,Z⟩=>by
  unfold Bd Rj WE
  rw[Aj h,Aj h,Aj h,J]
  exact⟨fun _=>none,fun _=>0,none,0,by rw[Y,NG],fun i _=>⟨fun _=>rfl,by show([]:List Bool).length<=_;simp,Rd.nil _ _ _ _⟩,Rd.nil _ _ _ _,Z,fun i _ B=>absurd B (by show ¬0<([]:List Bool).length;simp),fun a e=>by cases e⟩
 exact(WH c x T.ok W X U R w _ (Pd T h)).mono fun e w' Z=>N _ e w' rfl Z
def TV(c:Du)(x:He)(T:l5 c)(M:∀i,i<12->Wf (x.rd i))(W:Nat->Option Addr)(Z:Nat->Nat)(U:Option Addr)(R:Nat)(w:World)(hv:∀i,i<4->(W i=none->Z i=0)/\(c.V i).length<=Z i/\Rd w w.heap.size 1 (W i) (c.V i).length (Au (c.V i)))(hls:Co w w.heap.size U x.ls):
  Calls prog 8 #[.agg (row 297 (Ak c.fr c.F (AO W c.V Z))),.agg (row 14 (BP x.rd x.bad (.slice U x.ls.length R)))] w fun e w'=>Qg 0 w w' (Bd c x) (Rj c x) (WE c x) (codeOf c x) e:=by
 by_cases h:codeOf c x=0
 .obtain⟨G,hb,A⟩:=Ic T h;refine(NI c x G hb M A W Z U R w hv hls).mono ?_;rintro e w' ⟨L,O,E,D,I,X,Y,C⟩
  unfold Bd Rj WE
  rw[Ao h,Ao h,Ao h,h];exact⟨L,O,E,D,I,fun i hi=>⟨(X i hi).1,(X i hi).2.1,(X i hi).2.2.1⟩,Rd.Bu Y,C,fun i _ _ a _=>Nat.zero_le _,fun a _=>Nat.zero_le _⟩
 have N:∀(k:Int) (e:Ending) (w':World),codeOf c x=k->e=.returned (.tuple #[.agg zeroCells40,.slice none 0 0,.int .i64 k])/\Below w.heap.size w w'->Qg 0 w w' (Bd c x) (Rj c x) (WE c x) (codeOf c x) e:=fun k e w' J ⟨X,Y⟩=>by
  unfold Bd Rj WE
  rw[Aj h,Aj h,Aj h,J]
  exact⟨fun _=>none,fun _=>0,none,0,by rw[X,NG],fun i _=>⟨fun _=>rfl,by show([]:List Bool).length<=_;simp,Rd.nil _ _ _ _⟩,Rd.nil _ _ _ _,Y,fun i _ B=>absurd B (by show ¬0<([]:List Bool).length;simp),fun a e=>by cases e⟩
 exact(O1 c x T.ok W Z U R w _ (Pd T h)).mono fun e w' Y=>N _ e w' rfl Y
end Cf
namespace Cf
open Go.ChangeShapes Go.WideShapes Go.ChangeAt Go.RowKit Mem Rws Nd Cl
structure UH(w wr:World)(fr:Int)(F:Nat->Nat->Value)(V:Nat->List Bool)(VA:Nat->Option Addr)(VC:Nat->Nat):Prop where
 bC:Ae wr w.heap.size 40 (row 297 (Ak fr F (AO VA V VC)))
 bO:Ae wr (w.heap.size+1) 40 zeroCells40
 v:∀j,j<4->(VA j=none->VC j=0)/\(V j).length<=VC j/\Rd wr wr.heap.size 1 (VA j) (V j).length (Au (V j))/\(0<(V j).length->∀a,VA j=some a->a.block<w.heap.size\/w.heap.size+2<=a.block)
 b:Below w.heap.size w wr
def UH.below{w wr w':World}{Y:Int}{F:Nat->Nat->Value}{V:Nat->List Bool}{X:Nat->Option Addr}{VC:Nat->Nat}(h:UH w wr Y F V X VC)(hb:Below wr.heap.size wr w'):UH w w' Y F V X VC:=
 ⟨h.bC.below hb h.bC.lt,h.bO.below hb h.bO.lt,fun j Z=>⟨(h.v j Z).1,(h.v j Z).2.1,((h.v j Z).2.2.1.below hb).more hb.size,(h.v j Z).2.2.2⟩,Bh h.b Nr hb⟩
def UH.node{w wr:World}{X:Int}{F:Nat->Nat->Value}{V:Nat->List Bool}{N:Nat->Option Addr}{T:Nat->Nat}(h:UH w wr X F V N T){i:Nat}(hi:i<4)(A:Option Addr)(c:Nat)(M:Rd wr wr.heap.size 1 A (V i).length (Au (V i)))(E:A=none->c=0)(L:(V i).length<=c)(Z:∀a,A=some a->w.heap.size+2<=a.block):
  UH w (wr.setCells w.heap.size (1+i*74) (row 74 (Ab (F i) (.slice A (V i).length c))).toList) X F V (setAt N i A) (setAt T i c):=by
 obtain⟨W,Y⟩:=Ib w.heap.size (row 74 (Ab (F i) (.slice A (V i).length c))).toList (1+i*74) wr;refine⟨?_,Al (w:=wr) Aa _ _ _ h.bO,fun j D=>?_,below_setCells Aa _ _ h.b⟩
 .have:=DI h.bC (1+i*74) 74 (Ab (F i) (.slice A (V i).length c));rw[Vj X F _ i hi,Hw]at this;rw[←Hw V i,Zc,Hw];exact this
 rw[W]
 by_cases e:j=i
 .subst e;rw[AY,AY];exact⟨E,L,Li M Aa fun b _ R a U C=>Y b (by have:=Z a U;omega),fun _ a e=>.inr (Z a e)⟩
 rw[Bj _ _ e,Bj _ _ e];obtain⟨I,J,G,O⟩:=h.v j D;exact⟨I,J,Li G Aa fun b _ R a U C=>Y b (by have:=O R a U;omega),O⟩
def XV(O:Int)(F:Nat->Nat->Value)(M:∀i,i<4->∀j,j<73->C9 (Ar j) (F i j))(V:Nat->List Bool)(hV:∀i,i<4->(V i).length<=140737488351232)(W:Nat->Option Addr)(VC:Nat->Nat)(w:World)(hv:∀i,i<4->(W i=none->VC i=0)/\(V i).length<=VC i/\Rd w w.heap.size 1 (W i) (V i).length (Au (V i))):
  Calls prog 6 #[.agg (row 297 (Ak O F (AO W V VC)))] w fun e w'=>∃E I,e=.returned (.agg (row 297 (Ak O F (AO E V I))))/\(∀i,i<4->(E i=none->I i=0)/\(V i).length<=I i/\Rd w' w'.heap.size 1 (E i) (V i).length (Au (V i)))/\Below w.heap.size w w':=by
 have u:=zz M;have l:=zz hV;have z:=zz (fun(W:Nat->Option Addr) (VC:Nat->Nat)=>row_one (CP M O V W VC));have HN:=zz (fun(i:Nat) (hi:i<4) (A:Option Addr) (n cc:Nat)=>NT (M i hi) A n cc)
 have H0:UH w ((w.alloc (.cells (row 297 (Ak O F (AO W V VC))) 40)).alloc (.cells zeroCells40 40)) O F V W VC:=by
  have hb:Below w.heap.size w ((w.alloc (.cells (row 297 (Ak O F (AO W V VC))) 40)).alloc (.cells zeroCells40 40)):=((Below.refl w.heap.size w).alloc Nr _).alloc Bq _;refine⟨(Ae.new rfl).alloc _,Ae.new Bq,fun j r=>?_,hb⟩;obtain⟨g1,g2,g3⟩:=hv j r;exact⟨g1,g2,(g3.below hb).more hb.size,fun d a e=>.inl (by obtain⟨b,o,e2,f,_⟩:=g3.2 d;rw[e2]at e;injection e with e;subst e;exact f)⟩
 have Z:=zz H0;clear H0 M hV hv
 go_in
 go_upto_region 1 with fail
 generalize((w.alloc (.cells (row 297 (Ak O F (AO W V VC))) 40)).alloc (.cells zeroCells40 40))=w1 at*
 generalize row 297 (Ak O F (AO W V VC))=R0 at*
 go_wp2_with fail
 go_loopw[3] (fun q wr=>∃(k:Nat) (W:Nat->Option Addr) (VC:Nat->Nat),k<=4/\q=.int .i64 k/\UH w wr O F V W VC) (fun q _=>4-(intOf q).toNat)
 .exact⟨0,W,VC,Aa,rfl,Z.o⟩
 clear Z;obtain⟨k,T,N,hk,rfl,C⟩:=hrel;have Z:=zz C;clear C
 by_cases X:k<4
 .have qQ:(0:Int)<=(k:Int):=Aa;have qR:(k:Int)<4:=Aa
  have y:=zz (show(row 74 fun j=>Ak O F (AO T V N) (1+k*74+j))=row 74 (Ab (F k) (.slice (T k) (V k).length (N k)))from NV _ _ _ k X)
  go_wp2_with(refine Cb rfl 37 _ rfl w.heap.size (1+k*74) 74 rfl Z.o.bC Aa _ underlying37 rfl Ap ?_;rw[y.o])
  have L:=Z.o.v k X;refine(Ey (F k) (u.o k X) (T k) (N k) (V k) wr.heap.size wr Nr L.1 L.2.1 (l.o k X) L.2.2.1).mono ?_;rintro e c ⟨A3,p,rfl,Y,hb⟩;have D:=zz (Z.o.below hb);have B:=zz (D.o.node X A3 p (Rd.Bu Y) (BU Y).1 (BU Y).2 (fun a e=>by have:=Db Y a e;have:=Z.o.bO.lt;omega));obtain⟨x,R⟩:=AJ (row 74 (Ab (F k) (.slice A3 (V k).length p)))
  have iN:(prog.info? 37).map (·.size)=some x.size:=by rw[←R,Ag];kernel_rfl
  have tN:c.there w.heap.size (1+k*74) x.size:=by rw[←R,Ag];exact Cg D.o.bC (1+k*74) 74 Aa
  have oN:x.all (·.oneCell')=true:=by rw[←R];exact row_one (HN.o k X A3 _ p)
  rw[R]at B ⊢;clear R Y hb L Z y D
  go_wp2_with(refine Af Bb (fun K hK=>wp_store_mid 37 _ _ rfl w.heap.size (1+k*74) x rfl rfl tN iN oN (hK _ _ ?_));try simp only[Rg.lp];generalize(c.setCells w.heap.size (1+k*74) x.toList)=w8 at*)
  exact⟨⟨k+1,_,_,Aa,BG,B.o⟩,Ck⟩
 obtain rfl:k=4:=Aa;clear X;obtain⟨J,U⟩:=AJ (row 297 (Ak O F (AO T V N)));have g:=zz U
 have m:(prog.info? 40).map (·.size)=some J.size:=by rw[←U,Ag];kernel_rfl
 have z2:(zeroCells40).size=J.size:=by rw[←U,Ag];kernel_rfl
 have o2:J.all (·.oneCell')=true:=by rw[←U];exact z.o _ _
 have G:=Z.o.bC;rw[U]at G;have t:=zz G;clear U G
 go_wp2_with(first
  |(refine Ad rfl 40 _ rfl w.heap.size rfl t.o _ underlying40 rfl m ?_)
  |(refine wpList_store_row rfl 40 _ _ rfl (w.heap.size+1) J rfl rfl 40 _ Z.o.bO m z2 o2 ?_))
 have s:=CK wr (w.heap.size+1) J;refine Fs rfl rfl (Z.o.bO.setRow J) underlying40 rfl m rfl ⟨T,N,by rw[←g.o],fun j r=>?_,below_setRow Z.o.b Aa J⟩;obtain⟨h1,h2,h3,h4⟩:=Z.o.v j r;exact⟨h1,h2,Cr h3 s.size (fun d a e=>setRow_other wr (w.heap.size+1) a.block J (by have:=h4 d a e;omega))⟩
end Cf
namespace lawClusterFrames
open Go.ChangeShapes Go.WideShapes Go.ChangeAt Go.RowKit Mem Rws Nd Cl Cf
def bB{P:Program}{o:Oper}{a:Act}{w:World}{K:Act->World->Prop}{Q:Exit->Act->World->Prop}(t e:TypeId)(x:Operand)(W:o.op=.buildSlice t 1 #[(0,x)])(v:Value)(X:a.eval x=v)(n:Nat)(Z:P.underlying t=some (.slice e))(hs:(P.info? e).map (·.size)=some n)(hz:((P.info? e).bind (·.zero)).map (·.cells.size)=some n)(hpos:0<n)(hsm:n<=16777216)(hv:v.cells.size=n)(h:K (a.put o.dst (.slice (some ⟨w.heap.size,0,none⟩) 1 1)) (w.alloc (.cells v.cells e))):Oper.wp P o a w K Q:=by
 cases hie: P.info? e with
 |none=>simp[hie]at hs
 |some ie=>
  simp only[hie,Option.map_some,Option.some.injEq,Option.bind_some]at hs hz
  cases hzz:ie.zero with
  |none=>simp[hzz]at hz
  |some z=>
   refine wp_buildSlice t e 1 #[(0,x)] W v.cells ie z Z hie hzz (by rw[hs];omega) (by rw[hs];omega) ?_ h;have Y:=Great.fill_whole (s:=n) hpos [v] ((Array.range (1*ie.size)).map (z.cells[· %z.cells.size]!)) (fun u Z=>by simp at Z;subst Z;exact hv) (by simp[hs]);simp only[List.flatMap_cons,List.flatMap_nil,List.append_nil,Array.toArray_toList]at Y;rw[hs]at Y ⊢;simp only[List.map_toArray,List.map_cons,List.map_nil,X];exact Y
def Gv{P:Program}{o:Oper}{a:Act}{w:World}{K:Act->World->Prop}{Q:Exit->Act->World->Prop}(t:TypeId)(z:Array Value)(Y:o.op=.alloc t)(Z:(Instr.alloc t true (.tuple #[])).run P w=.ok (.pointer (some ⟨w.heap.size,0,none⟩)) (w.alloc (.cells z t)))(h:K (a.put o.dst (.pointer (some ⟨w.heap.size,0,none⟩))) (w.alloc (.cells z t))):Oper.wp P o a w K Q:=by
 unfold Oper.wp execOp
 simp only[Y,Sem.run_bind,Z,Result.andThen_ok,Sem.run_pure];exact h
def kZ{w:World}{W Z:Nat}{U:Array Value}{x:He}{Y:Option Addr}(V:row 14 (BP x.rd x.bad (.slice Y x.ls.length Z))=U)(hb:Ae w W 43 U)(X:(Y=none->Z=0)/\x.ls.length<=Z/\Z*40<=140737488351232)(T:Co w w.heap.size Y x.ls):Gn w w.heap.size (some ⟨W,0,none⟩) [x]:=by
 subst V;refine⟨(row 14 (BP x.rd x.bad (.slice Y x.ls.length Z))).toList,⟨by rw[Array.length_toList,Ag];rfl,fun _=>⟨W,0,rfl,hb.lt,fun j u R=>by rw[Nat.zero_add];exact(hb.cell j).trans (by rw[←R,Array.getElem?_toList])⟩⟩,fun i y hy=>?_⟩
 cases i with
 |zero=>
  rw[List.getElem?_cons_zero]at hy
  injection hy with hy
  subst hy;exact⟨Y,Z,by rw[Nat.zero_mul,List.drop_zero];exact List.take_of_length_le (by rw[Array.length_toList,Ag];exact Nat.le_refl _),X.1,X.2.1,Aa,T⟩
 |succ i=>simp at hy
def Qz{V:Nat->List Bool}{Y:Nat->Option Addr}{X:Option Addr}{n lo Z:Nat}(U:∀i,i<4->0<(V i).length->∀a,Y i=some a->lo<=a.block)(W:∀a,X=some a->lo<=a.block)(h:Z<lo):(∀i,i<4->0<(V i).length->∀a,Y i=some a->a.block≠Z)/\(0<n->∀a,X=some a->a.block≠Z):=
 ⟨fun i hi T a e=>by have:=U i hi T a e;omega,fun _ a e=>by have:=W a e;omega⟩
def LG{w:World}{V:Nat->List Bool}{X:Nat->Option Addr}{W:Option Addr}{n:Nat}{L:List Value}(T:∀i,i<4->Rd w w.heap.size 1 (X i) (V i).length (Au (V i)))(U:Rd w w.heap.size 14 W n L):(∀i,i<4->0<(V i).length->∀a,X i=some a->a.block≠w.heap.size)/\(0<n->∀a,W=some a->a.block≠w.heap.size):=
 ⟨fun i hi Y a e=>by obtain⟨b,o,Z,hb,_⟩:=(T i hi).2 Y;rw[Z]at e;injection e with e;subst e;exact Nat.ne_of_lt hb,fun Y a e=>by obtain⟨b,o,Z,hb,_⟩:=U.2 Y;rw[Z]at e;injection e with e;subst e;exact Nat.ne_of_lt hb⟩
def xz:He:=⟨fun _=>0,-1,[]⟩
def dK:Gi (Bw 0 0 0 0):=Ko ⟨Ei,Ei,Ei,Ei⟩
def walk(c:Du)(x:He)(ht:l5 c)(rE:∀i,i<12->Wf (x.rd i))(VA:Nat->Option Addr)(VC:Nat->Nat)(LA:Option Addr)(LC:Nat)(w:World)(hv:∀i,i<4->(VA i=none->VC i=0)/\(c.V i).length<=VC i/\Rd w w.heap.size 1 (VA i) (c.V i).length (Au (c.V i)))(hls:Co w w.heap.size LA x.ls)(hlc:(LA=none->LC=0)/\x.ls.length<=LC/\LC*40<=140737488351232):
  Calls prog 3 #[.agg (row 297 (Ak c.fr c.F (AO VA c.V VC))),.agg (row 14 (BP x.rd x.bad (.slice LA x.ls.length LC)))] w fun e w'=>e=.returned (.bool true)/\Below w.heap.size w w':=by
 have C:=zz ht;have rV:=zz rE;have HV:=zz hv;have rO:=zz hls;have rH:=zz hlc;clear ht rE hv hls hlc;obtain⟨B,l⟩:=AJ (row 297 (Ak c.fr c.F (AO VA c.V VC)));obtain⟨O,L⟩:=AJ (row 14 (BP x.rd x.bad (.slice LA x.ls.length LC)))
 have iC:(prog.info? 40).map (·.size)=some B.size:=by rw[←l,Ag];kernel_rfl
 have iI:(prog.info? 43).map (·.size)=some O.size:=by rw[←L,Ag];kernel_rfl
 have rX:=zz (show O.size=14 by rw[←L,Ag])
 rw[l,L];have qR:=zz l;have rD:=zz L;clear l L;have r9:=zz (fun(w:World)=>(by kernel_rfl:(Instr.alloc 40 true (.tuple #[])).run prog w=.ok (.pointer (some ⟨w.heap.size,0,none⟩)) (w.alloc (.cells zeroCells40 40))))
 have BC:=zz (show Ae ((w.alloc (.cells B 40)).alloc (.cells O 43)) w.heap.size 40 B from(Ae.new rfl).alloc _)
 have BI:=zz (show Ae ((w.alloc (.cells B 40)).alloc (.cells O 43)) (w.heap.size+1) 43 O from Ae.new Bq)
 have HB:=zz (((Below.refl w.heap.size w).alloc Nr (.cells B 40)).alloc Bq (.cells O 43))
 go_in
 go_upto_region 1 with fail
 generalize((w.alloc (.cells B 40)).alloc (.cells O 43))=w1 at*
 go_cut[5,6,7] (fun p q r f=>∃(N:Nat) (T:Nat->Option Addr) (b:Nat->Nat) (RA:Option Addr) (RF:Nat),p=.pointer (some ⟨N,0,none⟩)/\q=.slice RA (Rj c x) RF/\r=.int .i64 (codeOf c x)/\Ae f N 40 (row 297 (Ak (Bd c x).fr (Bd c x).F (AO T (Bd c x).V b)))/\(∀i,i<4->(T i=none->b i=0)/\((Bd c x).V i).length<=b i/\Rd f f.heap.size 1 (T i) ((Bd c x).V i).length (Au ((Bd c x).V i)))/\Rd f f.heap.size 14 RA (Rj c x) (WE c x)/\Ae f w.heap.size 40 B/\Ae f (w.heap.size+1) 43 O/\Below w.heap.size w f)
 case first=>
  have BC:=zz BC.o.drew;have BI:=zz BI.o.drew;have HB:=zz HB.o.drew;have HSS:(fun w'=>Ae w' w.heap.size 40 B/\Ae w' (w.heap.size+1) 43 O) w1.drew:=⟨BC.o,BI.o⟩;refine wp_region_noPanic ?_;refine A8 [0,2] (fun w'=>Ae w' w.heap.size 40 B/\Ae w' (w.heap.size+1) 43 O) Ap ?_
  generalize w1.drew=wv at*
  repeat' (first
   |(refine KO 0 (.agg B) HSS (hy:=?_) (h:=?_);· exact fun w' qY=>Az 40 _ rfl w.heap.size rfl qY.1 underlying40 rfl iC)
   |(refine KO 2 (.agg O) HSS (hy:=?_) (h:=?_);· exact fun w' qY=>Az 43 _ rfl (w.heap.size+1) rfl qY.2 underlying43 rfl iI)
   |(refine BJ 5 ?_)|(refine BJ 8 ?_)|(refine BJ 9 ?_)|(refine BJ 10 ?_)|(refine BJ 11 ?_)|(refine BJ 14 ?_)|(refine BJ 15 ?_)
   |(refine EG 1 3 ?_ ?_)
   |(refine EG 1 12 ?_ ?_)
   |(refine EG 3 12 ?_ ?_)
   |(refine EG 4 12 ?_ ?_)
   |(refine EG 6 12 ?_ ?_)
   |(refine EG 7 12 ?_ ?_)
   |(refine Uf 1 3 12 ?_ ?_ ?_)
   |(refine DR 1 ?_)|(refine DR 3 ?_)|(refine DR 4 ?_)|(refine DR 6 ?_)|(refine DR 7 ?_)|(refine DR 12 ?_)|(refine DR 13 ?_)
   |(refine Bt ?_;intro K hK;rw[Ao Bb];(first
    |(refine bB 49 43 _ rfl (.agg O) rfl 14 underlying49 Ap Ap Aa Aa rX.o ?_;rw[show(Value.agg O).cells=O from rfl];have hb:Below wv.heap.size wv (wv.alloc (.cells O 43)):=DC;have BN:=zz (show Ae (wv.alloc (.cells O 43)) wv.heap.size 43 O from Ae.fresh _ _ _);replace BC:=AU BC hb;replace BI:=AU BI hb;replace HB:=CU HB hb;replace HSS:=And.intro BC.o BI.o;(try(replace HV1:=zz (fun i (hi:i<4)=>(⟨(HV1.o i hi).1,(HV1.o i hi).2.1,((HV1.o i hi).2.2.below hb).more hb.size⟩:_/\_/\Rd _ _ 1 (M i) (c.V i).length (Au (c.V i))))));(try(replace BS:=AU BS hb));(try(replace HI4:=zz ((HI4.o.below hb).more hb.size)));(try(replace HL6:=zz (Eo (HL6.o.below hb) hb.size)));(try(replace BA:=AU BA hb));(try(replace HGA:=zz (Nat.lt_of_lt_of_le HGA.o hb.size)));(try(replace HVF:=zz (fun i (hi:i<4)=>(⟨(HVF.o i hi).1,(HVF.o i hi).2.1,((HVF.o i hi).2.2.below hb).more hb.size⟩:_/\_/\Rd _ _ 1 (T i) ((Bd c x).V i).length (Au ((Bd c x).V i))))));(try(replace HRF:=Iz HRF hb));have BS:=BN;obtain⟨gs,rM⟩:∃g,wv.heap.size=g:=⟨_,rfl⟩;rw[rM]at BS ⊢;clear hb rM BN;generalize(wv.alloc (.cells O 43))=wv at*)
    |(refine Gv 40 zeroCells40 rfl (r9.o _) ?_;have hb:Below wv.heap.size wv (wv.alloc (.cells zeroCells40 40)):=DC;have BN:=zz (show Ae (wv.alloc (.cells zeroCells40 40)) wv.heap.size 40 zeroCells40 from Ae.fresh _ _ _);have HGA:=zz (show wv.heap.size<(wv.alloc (.cells zeroCells40 40)).heap.size by simp);have s:=zz (BI.o.lt);(try(have t:=zz (LG (fun i hi=>(HVF.o i hi).2.2) HRF.o)));replace BC:=AU BC hb;replace BI:=AU BI hb;replace HB:=CU HB hb;replace HSS:=And.intro BC.o BI.o;(try(replace HV1:=zz (fun i (hi:i<4)=>(⟨(HV1.o i hi).1,(HV1.o i hi).2.1,((HV1.o i hi).2.2.below hb).more hb.size⟩:_/\_/\Rd _ _ 1 (M i) (c.V i).length (Au (c.V i))))));(try(replace BS:=AU BS hb));(try(replace HI4:=zz ((HI4.o.below hb).more hb.size)));(try(replace HL6:=zz (Eo (HL6.o.below hb) hb.size)));(try(replace BA:=AU BA hb));(try(replace HGA:=zz (Nat.lt_of_lt_of_le HGA.o hb.size)));(try(replace HVF:=zz (fun i (hi:i<4)=>(⟨(HVF.o i hi).1,(HVF.o i hi).2.1,((HVF.o i hi).2.2.below hb).more hb.size⟩:_/\_/\Rd _ _ 1 (T i) ((Bd c x).V i).length (Au ((Bd c x).V i))))));(try(replace HRF:=Iz HRF hb));have BA:=BN;obtain⟨N,qZ⟩:∃g,wv.heap.size=g:=⟨_,rfl⟩;rw[qZ]at BA HGA s ⊢;(try rw[qZ]at t);clear hb qZ BN;generalize(wv.alloc (.cells zeroCells40 40))=wv at*)
    |(obtain⟨b5,o5,qW,qQ,e4,sG,qX,rZ,su,sw,rC⟩:=HI4.o.at (show [x][0]?=some x from rfl);injection e4 with e4;injection e4 with e5 e6;subst e5 e6;rw[Nat.zero_mul,Nat.add_zero]at qX;refine wp_load_mid 43 _ rfl b4 o4 rfl _ _ qX underlying43 rfl Ap (show K (Act.put _ _ (.agg (row 14 (BP x.rd x.bad (.slice qW x.ls.length qQ))))) _ from ?_);obtain⟨R6,rA⟩:∃R,row 14 (BP x.rd x.bad (.slice qW x.ls.length qQ))=R:=⟨_,rfl⟩;rw[rA];have rY:=zz rA;clear rA;have HL6:=zz rC;clear qX rZ su sw rC HI4)
    |(obtain⟨U,X⟩:∃R,(row 297 (Ak (Bd c x).fr (Bd c x).F (AO T (Bd c x).V b)))=R:=⟨_,rfl⟩;(have D:(prog.info? 40).map (·.size)=some U.size:=by rw[←X,Ag];kernel_rfl);(have A:(zeroCells40).size=U.size:=by rw[←X,Ag];kernel_rfl);(have z:U.all (·.oneCell')=true:=by rw[←X];exact row_one (CP (Nl C.o).1 _ _ _ _));rw[X];refine wp_store_row 40 _ _ rfl N U rfl rfl 40 _ BA.o D A z ?_;have qV:=CK wv N U;replace BA:=zz (BA.o.setRow U);replace BC:=zz (BC.o.setRow_other (g':=N) (by have:=s.o;omega) U);replace BI:=zz (BI.o.setRow_other (g':=N) (by have:=s.o;omega) U);replace HSS:=And.intro BC.o BI.o;replace HB:=zz (below_setRow HB.o (show w.heap.size<=N by have:=s.o;omega) U);replace HVF:=zz (fun i (hi:i<4)=>(⟨(HVF.o i hi).1,(HVF.o i hi).2.1,Cr (HVF.o i hi).2.2 qV.size (fun hn a e=>setRow_other wv N a.block U (t.o.1 i hi hn a e))⟩:_/\_/\Rd _ _ 1 (T i) ((Bd c x).V i).length (Au ((Bd c x).V i))));replace HRF:=zz (Cr HRF.o qV.size (fun hn a e=>setRow_other wv N a.block U (t.o.2 hn a e)));clear qV D A z;generalize(wv.setRow N U)=wv at*;rw[←X]at BA;clear X)
    |(go_simp;(first
     |((go_at_call 6);rw[←qR.o];refine(XV c.fr c.F C.o.ok c.V C.o.v VA VC wv (fun i hi=>⟨(HV.o i hi).1,(HV.o i hi).2.1,((HV.o i hi).2.2.below HB.o).more HB.o.size⟩)).mono ?_;rintro e wv ⟨M,sD,rfl,rP,hb⟩;rw[qR.o];replace BC:=AU BC hb;replace BI:=AU BI hb;replace HB:=CU HB hb;replace HSS:=And.intro BC.o BI.o;(try(replace HV1:=zz (fun i (hi:i<4)=>(⟨(HV1.o i hi).1,(HV1.o i hi).2.1,((HV1.o i hi).2.2.below hb).more hb.size⟩:_/\_/\Rd _ _ 1 (M i) (c.V i).length (Au (c.V i))))));(try(replace BS:=AU BS hb));(try(replace HI4:=zz ((HI4.o.below hb).more hb.size)));(try(replace HL6:=zz (Eo (HL6.o.below hb) hb.size)));(try(replace BA:=AU BA hb));(try(replace HGA:=zz (Nat.lt_of_lt_of_le HGA.o hb.size)));(try(replace HVF:=zz (fun i (hi:i<4)=>(⟨(HVF.o i hi).1,(HVF.o i hi).2.1,((HVF.o i hi).2.2.below hb).more hb.size⟩:_/\_/\Rd _ _ 1 (T i) ((Bd c x).V i).length (Au ((Bd c x).V i))))));(try(replace HRF:=Iz HRF hb));have HV1:=zz rP;clear rP hb)
     |((go_at_call 7);refine(Q7 (some ⟨gs,0,none⟩) 1 [x] wv (by show 1*128<=_;omega) (fun y hy=>by rw[List.mem_singleton]at hy;subst hy;have:=rH.o;omega) (kZ rD.o BS.o rH.o (Eo (rO.o.below HB.o) HB.o.size))).mono ?_;rintro e wv ⟨A4,c4,rfl,_,_,rJ,hb⟩;replace BC:=AU BC hb;replace BI:=AU BI hb;replace HB:=CU HB hb;replace HSS:=And.intro BC.o BI.o;(try(replace HV1:=zz (fun i (hi:i<4)=>(⟨(HV1.o i hi).1,(HV1.o i hi).2.1,((HV1.o i hi).2.2.below hb).more hb.size⟩:_/\_/\Rd _ _ 1 (M i) (c.V i).length (Au (c.V i))))));(try(replace BS:=AU BS hb));(try(replace HI4:=zz ((HI4.o.below hb).more hb.size)));(try(replace HL6:=zz (Eo (HL6.o.below hb) hb.size)));(try(replace BA:=AU BA hb));(try(replace HGA:=zz (Nat.lt_of_lt_of_le HGA.o hb.size)));(try(replace HVF:=zz (fun i (hi:i<4)=>(⟨(HVF.o i hi).1,(HVF.o i hi).2.1,((HVF.o i hi).2.2.below hb).more hb.size⟩:_/\_/\Rd _ _ 1 (T i) ((Bd c x).V i).length (Au ((Bd c x).V i))))));(try(replace HRF:=Iz HRF hb));have HI4:=zz rJ;clear rJ hb;obtain⟨b4,o4,_,_,e4,_⟩:=HI4.o.at (show [x][0]?=some x from rfl);subst e4;rw[show([x]:List He).length=1 from rfl])
     |((go_at_call 5);have J:=aA c x C.o rV.o M sD qW qQ wv HV1.o HL6.o;rw[rY.o]at J;refine J.mono ?_;rintro e wv ⟨T,b,RA,RF,rfl,I,E,hb,rR,rQ⟩;(try(have t:=zz (Qz (n:=(Rj c x)) rR rQ HGA.o)));replace BC:=AU BC hb;replace BI:=AU BI hb;replace HB:=CU HB hb;replace HSS:=And.intro BC.o BI.o;(try(replace HV1:=zz (fun i (hi:i<4)=>(⟨(HV1.o i hi).1,(HV1.o i hi).2.1,((HV1.o i hi).2.2.below hb).more hb.size⟩:_/\_/\Rd _ _ 1 (M i) (c.V i).length (Au (c.V i))))));(try(replace BS:=AU BS hb));(try(replace HI4:=zz ((HI4.o.below hb).more hb.size)));(try(replace HL6:=zz (Eo (HL6.o.below hb) hb.size)));(try(replace BA:=AU BA hb));(try(replace HGA:=zz (Nat.lt_of_lt_of_le HGA.o hb.size)));(try(replace HVF:=zz (fun i (hi:i<4)=>(⟨(HVF.o i hi).1,(HVF.o i hi).2.1,((HVF.o i hi).2.2.below hb).more hb.size⟩:_/\_/\Rd _ _ 1 (T i) ((Bd c x).V i).length (Au ((Bd c x).V i))))));(try(replace HRF:=Iz HRF hb));have HVF:=zz I;have HRF:=zz E;clear I E hb rR rQ J))));refine hK.o _ _ HSS ?_;(try simp only[Rg.lp]))
   |(refine Bg Ap ?_ _;refine NoPanic.normal ?_;clear HSS;go_wp2_with fail;go_meet;exact⟨N,T,b,RA,RF,rfl,rfl,rfl,BA.o,HVF.o,HRF.o,BC.o,BI.o,HB.o⟩))
 clear BC BI HB;obtain⟨N,T,b,RA,RF,rfl,rfl,rfl,ba,I,E,bc,bi,hb⟩:=hcut;have BA:=zz ba;have BC:=zz bc;have BI:=zz bi;have HB:=zz hb;have HVF:=zz I;have HRF:=zz E;clear ba bc bi hb I E
 go_wp2_with(first
  |(refine Ad rfl 40 _ rfl w.heap.size rfl BC.o _ underlying40 rfl iC ?_)
  |(refine Ad rfl 43 _ rfl (w.heap.size+1) rfl BI.o _ underlying43 rfl iI ?_))
 have ru:=zz (TV c x C.o rV.o VA VC LA LC wc (fun i hi=>⟨(HV.o i hi).1,(HV.o i hi).2.1,((HV.o i hi).2.2.below HB.o).more HB.o.size⟩) (Eo (rO.o.below HB.o) HB.o.size));rw[qR.o,rD.o]at ru;refine ru.o.mono ?_;rintro e d ⟨m,VE,RB,RG,rfl,rU,rT,hb,_,_⟩;have BA:=AU BA hb;have HVF:=zz (fun i (hi:i<4)=>(⟨(HVF.o i hi).1,(HVF.o i hi).2.1,((HVF.o i hi).2.2.below hb).more hb.size⟩:_/\_/\Rd _ _ 1 (T i) ((Bd c x).V i).length (Au ((Bd c x).V i))));have HRF:=Iz HRF hb;have HB:=CU HB hb;have Y:=zz rU;have W:=zz rT;clear rU rT hb BC BI ru;have D:(prog.info? 40).map (·.size)=some (row 297 (Ak (Bd c x).fr (Bd c x).F (AO m (Bd c x).V VE))).size:=Eg;have A:(zeroCells40).size=(row 297 (Ak (Bd c x).fr (Bd c x).F (AO m (Bd c x).V VE))).size:=Eg;have z:=row_one (CP (Nl (x:=x) C.o).1 (Bd c x).fr (Bd c x).V m VE);obtain⟨U,X⟩:=AJ (row 297 (Ak (Bd c x).fr (Bd c x).F (AO m (Bd c x).V VE)));rw[X]at D A z ⊢;have G:=zz X;have F1:Hid (Ae (d.alloc (.cells zeroCells40 40)) d.heap.size 40 zeroCells40):=zz (Ae.fresh _ _ _)
 go_upto_region 3 with(refine wpList_store_row rfl 40 _ _ rfl d.heap.size U rfl rfl 40 _ F1.o D A z ?_)
 have Z:=below_setRow ((Below.refl d.heap.size d).alloc Nr (.cells zeroCells40 40)) Nr U;have u:=zz (F1.o.setRow U);have BA:=AU BA Z;have HVF:=zz (fun i (hi:i<4)=>(⟨(HVF.o i hi).1,(HVF.o i hi).2.1,((HVF.o i hi).2.2.below Z).more Z.size⟩:_/\_/\Rd _ _ 1 (T i) ((Bd c x).V i).length (Au ((Bd c x).V i))));have HRF:=Iz HRF Z;have Y:=zz (fun i (hi:i<4)=>(⟨(Y.o i hi).1,(Y.o i hi).2.1,((Y.o i hi).2.2.below Z).more Z.size⟩:_/\_/\Rd _ _ 1 (m i) ((Bd c x).V i).length (Au ((Bd c x).V i))));have W:=Iz W Z;have HB:=CU HB Z;clear F1 Z D A z X
 generalize((d.alloc (.cells zeroCells40 40)).setRow d.heap.size U)=w3 at*
 obtain⟨gB,hg⟩:=AJ (d.heap.size);rw[hg]at u ⊢;rw[←G.o]at u;clear hg G;have BB:=u;clear u;go_wp2_with fail;refine(Lg 0 0 0 0 w3).mono ?_;rintro e w4 ⟨rfl,hb⟩;rw[Ow];have BA:=AU BA hb;have BB:=AU BB hb;have HVF:=zz (fun i (hi:i<4)=>(⟨(HVF.o i hi).1,(HVF.o i hi).2.1,((HVF.o i hi).2.2.below hb).more hb.size⟩:_/\_/\Rd _ _ 1 (T i) ((Bd c x).V i).length (Au ((Bd c x).V i))));have HRF:=Iz HRF hb;have Y:=zz (fun i (hi:i<4)=>(⟨(Y.o i hi).1,(Y.o i hi).2.1,((Y.o i hi).2.2.below hb).more hb.size⟩:_/\_/\Rd _ _ 1 (m i) ((Bd c x).V i).length (Au ((Bd c x).V i))));have W:=Iz W hb;have HB:=CU HB hb;clear hb;obtain⟨R0,qU⟩:=AJ (row 297 (Ak (Bw 0 0 0 0).fr (Bw 0 0 0 0).F (AO (fun _=>none) (Bw 0 0 0 0).V (fun _=>0))));rw[qU]
 have rq:=zz (Oj (Bw 0 0 0 0) xz dK (by show(-1:Int)<= -1/\(-1:Int)<=3;omega) (fun _ _=>Ei) (by show([]:List IC).length<=400;simp) (fun _=>none) (fun _=>0) none 0 w4 (fun j hj=>⟨fun _=>rfl,by show(([]:List Bool)).length<=0;simp,Rd.nil _ _ _ _⟩) (Co.nil _ _ _))
 rw[qU,show row 14 (BP xz.rd xz.bad (.slice none xz.ls.length 0))=(#[.int .i64 0,.int .i64 0,.int .i64 0,.int .i64 0,.int .i64 0,.int .i64 0,.int .i64 0,.int .i64 0,.int .i64 0,.int .i64 0,.int .i64 0,.int .i64 0,.int .i64 (-1),.slice none 0 0]:Array Value)from rfl]at rq
 clear qU;go_wp2_with fail;refine rq.o.mono ?_;rintro e k ⟨VN,VM,RN,RM,rfl,_,_,hb⟩;have BA:=AU BA hb;have BB:=AU BB hb;have HVF:=zz (fun i (hi:i<4)=>(⟨(HVF.o i hi).1,(HVF.o i hi).2.1,((HVF.o i hi).2.2.below hb).more hb.size⟩:_/\_/\Rd _ _ 1 (T i) ((Bd c x).V i).length (Au ((Bd c x).V i))));have HRF:=Iz HRF hb;have Y:=zz (fun i (hi:i<4)=>(⟨(Y.o i hi).1,(Y.o i hi).2.1,((Y.o i hi).2.2.below hb).more hb.size⟩:_/\_/\Rd _ _ 1 (m i) ((Bd c x).V i).length (Au ((Bd c x).V i))));have W:=Iz W hb;have HB:=CU HB hb;clear hb rq;have D:(prog.info? 40).map (·.size)=some (row 297 (Ak (next (Bw 0 0 0 0) xz).fr (next (Bw 0 0 0 0) xz).F (AO VN (next (Bw 0 0 0 0) xz).V VM))).size:=Eg;have A:(zeroCells40).size=(row 297 (Ak (next (Bw 0 0 0 0) xz).fr (next (Bw 0 0 0 0) xz).F (AO VN (next (Bw 0 0 0 0) xz).V VM))).size:=Eg
 have z:=row_one (CP (Ls (x:=xz) dK (fun _ _=>Ei) (by show(0:Int)+1<_;omega)).ok (next (Bw 0 0 0 0) xz).fr (next (Bw 0 0 0 0) xz).V VN VM)
 obtain⟨U,X⟩:=AJ (row 297 (Ak (next (Bw 0 0 0 0) xz).fr (next (Bw 0 0 0 0) xz).F (AO VN (next (Bw 0 0 0 0) xz).V VM)));rw[X]at D A z ⊢;have G:=zz X;have F1:Hid (Ae (k.alloc (.cells zeroCells40 40)) k.heap.size 40 zeroCells40):=zz (Ae.fresh _ _ _)
 go_upto_region 4 with(refine wpList_store_row rfl 40 _ _ rfl k.heap.size U rfl rfl 40 _ F1.o D A z ?_)
 have Z:=below_setRow ((Below.refl k.heap.size k).alloc Nr (.cells zeroCells40 40)) Nr U;have u:=zz (F1.o.setRow U);have BA:=AU BA Z;have BB:=AU BB Z;have HVF:=zz (fun i (hi:i<4)=>(⟨(HVF.o i hi).1,(HVF.o i hi).2.1,((HVF.o i hi).2.2.below Z).more Z.size⟩:_/\_/\Rd _ _ 1 (T i) ((Bd c x).V i).length (Au ((Bd c x).V i))));have HRF:=Iz HRF Z;have Y:=zz (fun i (hi:i<4)=>(⟨(Y.o i hi).1,(Y.o i hi).2.1,((Y.o i hi).2.2.below Z).more Z.size⟩:_/\_/\Rd _ _ 1 (m i) ((Bd c x).V i).length (Au ((Bd c x).V i))));have W:=Iz W Z;have HB:=CU HB Z;clear F1 Z D A z X
 generalize((k.alloc (.cells zeroCells40 40)).setRow k.heap.size U)=w6 at*
 obtain⟨gN,hg⟩:=AJ (k.heap.size);rw[hg]at u ⊢;rw[←G.o]at u;clear hg G;have y0:=u.o.cell 0
 rw[Ah Aa,show Ak (next (Bw 0 0 0 0) xz).fr (next (Bw 0 0 0 0) xz).F (AO VN (next (Bw 0 0 0 0) xz).V VM) 0=.int .i64 1 from rfl]at y0
 have rF:=zz u.o.lt;clear u;obtain⟨kd,rG⟩:=AJ (codeOf c x);rw[rG];clear rG;have sH:(kd==kd)=true:=Bq
 have iA:∀(VX:Nat->Option Addr) (VY:Nat->Nat),(prog.info? 40).map (·.size)=some (row 297 (Ak (Bd c x).fr (Bd c x).F (AO VX (Bd c x).V VY))).size:=fun _ _=>by rw[Ag];kernel_rfl
 go_upto_region 4 with fail
 refine wp_region_list ?_
 iterate 4 (refine Af Bb (fun K hK=>?_);go_simp;refine hK _ _ ?_;(try simp only[Rg.lp]))
 refine Ad Bb 40 _ rfl N rfl BA.o _ underlying40 rfl (iA _ _) ?_;(try simp only[Rg.lp]);refine Ad Bb 40 _ rfl gB rfl BB.o _ underlying40 rfl (iA _ _) ?_;(try simp only[Rg.lp]);refine Af Bb (fun K hK=>?_);go_simp
 go_at_call 10
 refine(OT (Bd c x).fr (Bd c x).F (Nl C.o).1 (Bd c x).V (fun i hi=>by have:=(Nl (x:=x) C.o).2 i hi;omega) T m b VE w6 (fun i hi=>(HVF.o i hi).2.2) (fun i hi=>(Y.o i hi).2.2)).mono ?_;rintro e w7 ⟨rfl,hb⟩;have HRF:=Iz HRF hb;have W:=Iz W hb;have y0:=(hb.cell (p:=⟨gN,0,none⟩) rF.o).trans y0;have HB:=CU HB hb;have rW:=zz (Nat.lt_of_lt_of_le rF.o hb.size);clear hb iA;refine hK _ _ ?_;(try simp only[Rg.lp])
 iterate 4 (refine Af Bb (fun K hK=>?_);go_simp;refine hK _ _ ?_;(try simp only[Rg.lp]))
 refine Af Bb (fun K hK=>?_);go_simp
 go_at_call 11
 refine(Nk (Rj c x) (Nat.le_trans (VH C.o).1 (by omega)) (WE c x) (VH C.o).2 RA RB RF RG w7 HRF.o W.o).mono ?_;rintro e w8 ⟨rfl,hb⟩;have y0:=(hb.cell (p:=⟨gN,0,none⟩) rW.o).trans y0;have HB:=CU HB hb;clear hb;refine hK _ _ ?_;(try simp only[Rg.lp]);go_wp2_with fail
 go_ret
 exact⟨rfl,HB.o⟩
def lifted(os:Os)(Y:os.Started)(H:Type)(enc:TypeId×Value->H):
  ReturnsInHanded {} Tryz.checked os 3 .any (Rows.clusterFramesSpec.pre6 enc prog Tryz.f3 Rows.clusterFramesRow.domain false) (Rows.clusterFramesSpec.post enc prog Tryz.f3 false true false false):=by
 refine returnsInHanded_of_change_sized (C:=Tryz.checked) Fr.own Y Ap func3
  (ChangeSpec.witness6 (enc:=enc) (C:=Tryz.checked) false ⟨#[],#[.agg zeroCells40,.agg VB],[]⟩ 8 Ap Ap Ap Ap) ?_
 intro W base Z s gs L V y _ T _;have X:∀(j:Nat) t v,Tryz.f3.params[j]?=some t->Z[j]?=some v->Value.okWide prog W .any base t v:=V;have O:(DataW.weightsEach prog (Tryz.f3.params.toList++Rows.clusterFramesSpec.plain.varTypes prog) (s++gs)).all (· <=reachBytes)=true:=T;clear V T;obtain⟨p,q,N,M,_⟩:=id y;have E:DataW.TrodAll enc prog W 0 (fun _=>true) true Tryz.f3.params.toList Z.toList s p:=N;rw[Tryz.params3]at E X O;obtain⟨u,qU,d0,d,p0,q0,G,rfl,rfl,g,n⟩:=trodAll_cons E;obtain⟨r,qR,d1,qV,p1,q1,rfl,rfl,rfl,h1,m⟩:=trodAll_cons n;obtain⟨rfl,rfl,rfl⟩:=trodAll_nil m
 obtain rfl:Z=#[u,r]:=by cases Z;simp_all
 obtain⟨rfl,rfl⟩:=trodVars_none M
 refine Fr.YV (f:=Tryz.f3) Fr.laidOut (by rw[Tryz.params3];intro t R;simp at R;(first|(rcases R with rfl|rfl|rfl|rfl|rfl|rfl)|(rcases R with rfl|rfl|rfl|rfl|rfl)|(rcases R with rfl|rfl|rfl|rfl)|(rcases R with rfl|rfl|rfl)|(rcases R with rfl|rfl)|(subst R))<;>exact⟨Ap,of_decide_eq_true Ap⟩) rfl rfl underlying4 (fun _=>rfl) y ?_
 clear y E N M;obtain⟨c,VA,b,rfl,D,J,qQ,U⟩:=Cf.kY (X 0 40 u rfl rfl) g (Op.Ii (j:=0) O rfl rfl);obtain⟨x,o,k,rfl,A,z,I,F,B,l⟩:=Cf.oq (X 1 43 r rfl rfl) h1 (Op.Ii (j:=1) O rfl rfl);exact walk c x ⟨D,J,fun i hi=>by have:=U i hi;omega⟩ B VA b o k W (fun i hi=>⟨(U i hi).1,(U i hi).2.1,(U i hi).2.2.2⟩) F ⟨A,z,I⟩
def Lc:joinedFacts prog 3 Tryz.f3 Rows.clusterFramesSpec Rows.clusterFramesRow=true:=by
 unfold joinedFacts
 simp only[Bool.and_eq_true];refine⟨⟨⟨⟨⟨⟨⟨⟨⟨⟨⟨⟨⟨⟨⟨⟨⟨⟨⟨⟨⟨⟨⟨⟨⟨⟨⟨⟨⟨⟨⟨?_,?_⟩,?_⟩,?_⟩,?_⟩,?_⟩,?_⟩,?_⟩,?_⟩,?_⟩,?_⟩,?_⟩,?_⟩,?_⟩,?_⟩,?_⟩,?_⟩,?_⟩,?_⟩,?_⟩,?_⟩,?_⟩,?_⟩,?_⟩,?_⟩,?_⟩,?_⟩,?_⟩,?_⟩,?_⟩,?_⟩,?_⟩
 . as_aux_lemma=>kernel_rfl
 . exact Fr.laidOut
 . exact Facts.Qa
 . as_aux_lemma=>kernel_rfl
 . as_aux_lemma=>kernel_rfl
 . as_aux_lemma=>kernel_rfl
 . exact Facts.jG
 . as_aux_lemma=>kernel_rfl
 . exact Facts.fF
 . as_aux_lemma=>kernel_rfl
 . as_aux_lemma=>kernel_rfl
 . as_aux_lemma=>kernel_rfl
 . as_aux_lemma=>kernel_rfl
 . as_aux_lemma=>kernel_rfl
 . as_aux_lemma=>kernel_rfl
 . as_aux_lemma=>kernel_rfl
 . as_aux_lemma=>kernel_rfl
 . as_aux_lemma=>kernel_rfl
 . as_aux_lemma=>kernel_rfl
 . as_aux_lemma=>kernel_rfl
 . as_aux_lemma=>kernel_rfl
 . as_aux_lemma=>kernel_rfl
 . exact Facts.ng
 . as_aux_lemma=>kernel_rfl
 . exact Facts.fA
 . exact Facts.gW
 . exact Facts.eu
 . exact Facts.nM
 . as_aux_lemma=>kernel_rfl
 . as_aux_lemma=>kernel_rfl
 . as_aux_lemma=>kernel_rfl
 as_aux_lemma=>kernel_rfl
theorem proved:Rows.ClusterFramesSaid:=
 OpenClaim.holds_of_wide 3 Tryz.f3 rfl rfl rfl rfl rfl rfl rfl ⟨rfl,rfl,rfl,rfl,rfl⟩ rfl rfl rfl rfl rfl Ap func3 Lc
  (of_decide_eq_true Ap) (by unfold Func.isWrapper;first|(rw[Ao (by decide+kernel)];kernel_rfl)|(rw[Aj (by decide+kernel)];exact⟨rfl,rfl⟩))
  (fun os Z H enc _=>lifted os Z H enc)
end lawClusterFrames
end Go.Proofs.YtjobajeggllmiaaGreat
