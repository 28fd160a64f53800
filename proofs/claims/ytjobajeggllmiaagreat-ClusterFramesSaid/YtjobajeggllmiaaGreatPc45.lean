import Derived.Test.YtjobajeggllmiaaGreatPc0
import Derived.Test.YtjobajeggllmiaaGreatPc44
set_option linter.all false
set_option maxHeartbeats 100000000
set_option maxRecDepth 100000
namespace Go.Proofs.YtjobajeggllmiaaGreat
open Ms Rg _root_.Go.Proofs.Tryz
namespace Cf
open Go.ChangeShapes Go.WideShapes Go.ChangeAt Go.RowKit Mem Go.Proofs.YtjobajeggllmiaaGreat.Op Rws Nd Cl
instance:Inhabited He:=⟨⟨fun _=>0,0,[]⟩⟩
def nu(x:He)(Z:Option Addr)(Y:Nat):List Value:=(row 14 (BP x.rd x.bad (.slice Z x.ls.length Y))).toList
def Gn(w:World)(B:Nat)(A:Option Addr)(X:List He):Prop:=
 ∃cs,Rd w B 14 A X.length cs/\∀i x,X[i]?=some x->∃Y Z,(cs.drop (i*14)).take 14=nu x Y Z/\(Y=none->Z=0)/\x.ls.length<=Z/\Z<=9223372036854775807/\Co w B Y x.ls
def Gn.keep{w w':World}{B:Nat}{A:Option Addr}{xs:List He}(h:Gn w B A xs)(Z:∀b o,b<B-> w'.cell? ⟨b,o,none⟩= w.cell? ⟨b,o,none⟩):Gn w' B A xs:=by
 obtain⟨cs,U,X⟩:=h;refine⟨cs,U.keep Z,fun i x hi=>?_⟩;obtain⟨Y,V,R,T,O,N,M⟩:=X i x hi;exact⟨Y,V,R,T,O,N,M.keep Z⟩
def Eo{w:World}{B Y:Nat}{A:Option Addr}{ls:List IC}(h:Co w B A ls)(Z:B<=Y):Co w Y A ls:=by
 obtain⟨L,V,X⟩:=h;refine⟨L,V.more Z,fun i l M=>?_⟩;obtain⟨a,c,T,U,R,O,N,J⟩:=X i l M;exact⟨a,c,T,U,R,O,N,J.more Z⟩
def Gn.more{w:World}{B Y:Nat}{A:Option Addr}{xs:List He}(h:Gn w B A xs)(Z:B<=Y):Gn w Y A xs:=by
 obtain⟨cs,T,V⟩:=h;refine⟨cs,T.more Z,fun i x hi=>?_⟩;obtain⟨X,U,O,R,N,M,L⟩:=V i x hi;exact⟨X,U,O,R,N,M,Eo L Z⟩
def Gn.below{w w':World}{B:Nat}{A:Option Addr}{xs:List He}(h:Gn w B A xs)(hb:Below B w w'):Gn w' B A xs:=h.keep fun b o Z=>hb.cell (p:=⟨b,o,none⟩) Z
def Gn.nil(w:World)(B:Nat)(A:Option Addr):Gn w B A []:=⟨[],Rd.nil _ _ _ _,fun i l h=>by simp at h⟩
def Gn.at{w:World}{B:Nat}{A:Option Addr}{V:List He}(h:Gn w B A V){i:Nat}{x:He}(hi:V[i]?=some x):∃b o Y Z,A=some ⟨b,o,none⟩/\b<B/\w.rangeAt b (o+i*14) ((List.range 14).map (BP x.rd x.bad (.slice Y x.ls.length Z)))/\(Y=none->Z=0)/\x.ls.length<=Z/\Z<=9223372036854775807/\Co w B Y x.ls:=by
 obtain⟨cs,O,R⟩:=h;obtain⟨Y,Z,M,N,L,J,I⟩:=R i x hi;have F:i<V.length:=(List.getElem?_eq_some_iff.1 hi).1;obtain⟨b,o,e,hb,T⟩:=O.2 Aa;refine⟨b,o,Y,Z,e,hb,fun j v U=>?_,N,L,J,I⟩
 have G:j<14:=by have:=(List.getElem?_eq_some_iff.1 U).1;simpa using this
 have X:(nu x Y Z)[j]?=some v:=by unfold nu;rw[Gd];exact U
 rw[←M,List.getElem?_take,Ao G,List.getElem?_drop]at X;have:=T _ _ X
 rwa[←Nat.add_assoc]at this
section
variable {H : Type} {enc : TypeId × Value -> H} {W : World} {base : Nat} {spare : Nat -> Bool} {held : Bool}
def Ty(Z:∀b,spare b=true){Y:List Value}(k:Cells enc prog W base spare held [3,3,74] Y):
  ∃l a c,Y=Ov l a c/\(a=none->c=0)/\l.bs.length<=c/\c<=140737488351232/\(∀x∈l.bs,x<256)/\Rd W W.heap.size 1 a l.bs.length (Sm.Br l.bs)/\Wf l.p/\Wf l.t:=by
 obtain⟨u,l,rfl,E,k⟩:=k.cons;obtain⟨y,l,rfl,D,k⟩:=k.cons;obtain⟨z,l,rfl,M,k⟩:=k.cons;obtain rfl:=k.nR;obtain⟨R,rfl,T⟩:=E.int underlying3;obtain⟨L,rfl,I⟩:=D.int underlying3;obtain⟨A,c,N,rfl,V,s,J,G,U,B⟩:=M.ints underlying74 underlying5 Ap Z
 rw[show prog.bytesOf 5=1 from by kernel_rfl]at J
 obtain⟨O,F,X,C⟩:=Sm.UO N B;rw[F,←X]at U;rw[←X]at V ⊢;have v:reachBytes=140737488351232:=El;exact⟨⟨R,L,O⟩,A,c,rfl,G,V,Aa,C,U,T,I⟩
def in_of_cells(Y:∀b,spare b=true){G:List Value}(k:Cells enc prog W base spare held [3,3,3,3,3,3,3,3,3,3,3,3,3,41] G):
  ∃x M V,G=nu x M V/\(M=none->V=0)/\x.ls.length<=V/\V*40<=140737488351232/\Co W W.heap.size M x.ls/\(∀i,i<12->Wf (x.rd i))/\Wf x.bad/\∀l∈x.ls,Wf l.p/\Wf l.t:=by
 obtain⟨x0,l,rfl,f0,k⟩:=k.cons;obtain⟨x1,l,rfl,f1,k⟩:=k.cons;obtain⟨x2,l,rfl,f2,k⟩:=k.cons;obtain⟨x3,l,rfl,f3,k⟩:=k.cons;obtain⟨x4,l,rfl,f4,k⟩:=k.cons;obtain⟨x5,l,rfl,m,k⟩:=k.cons;obtain⟨x6,l,rfl,d,k⟩:=k.cons;obtain⟨x7,l,rfl,f7,k⟩:=k.cons;obtain⟨x8,l,rfl,f8,k⟩:=k.cons;obtain⟨x9,l,rfl,s,k⟩:=k.cons;obtain⟨qU,l,rfl,I,k⟩:=k.cons;obtain⟨qR,l,rfl,R,k⟩:=k.cons;obtain⟨g,l,rfl,L,k⟩:=k.cons;obtain⟨y,l,rfl,J,k⟩:=k.cons;obtain rfl:=k.nR;obtain⟨m0,rfl,w0⟩:=f0.int underlying3;obtain⟨m1,rfl,w1⟩:=f1.int underlying3;obtain⟨m2,rfl,w2⟩:=f2.int underlying3;obtain⟨m3,rfl,w3⟩:=f3.int underlying3;obtain⟨m4,rfl,w4⟩:=f4.int underlying3;obtain⟨r,rfl,w5⟩:=m.int underlying3;obtain⟨m6,rfl,w6⟩:=d.int underlying3;obtain⟨m7,rfl,w7⟩:=f7.int underlying3;obtain⟨m8,rfl,w8⟩:=f8.int underlying3;obtain⟨u,rfl,w9⟩:=s.int underlying3;obtain⟨O,rfl,q⟩:=I.int underlying3;obtain⟨N,rfl,qQ⟩:=R.int underlying3;obtain⟨U,rfl,T⟩:=L.int underlying3;obtain⟨A,n,c,xs,rfl,h1,h2,h3,j,h5,h6⟩:=Op.Leaf.slice (le:=[3,3,74]) underlying41 Ap Ap Bq Y J
 rw[show prog.bytesOf 76=40 from by kernel_rfl]at h3
 obtain⟨f,C⟩:=Deep.choose_lt (n:=n) (fun i hi=>Ty Y (h6 i hi));have Z:((List.range n).map f).length=n:=Bq;have hr:reachBytes=140737488351232:=El;refine⟨⟨fun i=>[m0,m1,m2,m3,m4,r,m6,m7,m8,u,O,N].getD i 0,U,(List.range n).map f⟩,A,c,by unfold nu;dsimp only;rw[Z];rfl,j,by rw[Z];exact h1,Aa,⟨xs,by rw[Z];exact h5,fun i l X=>?_⟩,fun i hi=>?_,T,fun l X=>?_⟩
 .have hi:i<n:=by have:=(List.getElem?_eq_some_iff.1 X).1;simpa using this
  simp[hi]at X
  subst X;obtain⟨a,D,v,z,F,q4,B,E,_⟩:=C i hi;exact⟨a,D,v,z,F,⟨Aa,Aa⟩,B,E⟩
 .obtain rfl|rfl|rfl|rfl|rfl|rfl|rfl|rfl|rfl|rfl|rfl|rfl:i=0\/i=1\/i=2\/i=3\/i=4\/i=5\/i=6\/i=7\/i=8\/i=9\/i=10\/i=11:=Aa
  all_goals assumption
 obtain⟨i,hi,rfl⟩:=List.mem_map.1 X;obtain⟨a,D,v,z,F,q4,B,E,q7⟩:=C i (List.mem_range.1 hi);exact q7
end
end Cf
namespace Cf
open Go.ChangeShapes Go.WideShapes Go.ChangeAt Go.RowKit Mem Rws Nd Cl
def SA(bad:Int):∀n k,k<(Bz bad n).length->(Bz bad n).getD k 0<n/\(((Bz bad n).getD k 0:Nat):Int)≠bad:=fun n k Y=>by
 have Z:(Bz bad n).getD k 0∈Bz bad n:=by rw[List.getD_eq_getElem?_getD,List.getElem?_eq_getElem Y];exact List.getElem_mem Y
 generalize(Bz bad n).getD k 0=p at Z;clear Y
 induction n with
 |zero=>exact absurd Z (by unfold Bz;simp)
 |succ n ih=>
  unfold Bz at Z
  rcases List.mem_append.1 Z with h|h
  . exact⟨by have:=(ih h).1;omega,(ih h).2⟩
  split at h
  . simp at h
  rename_i hb
  simp at h
  subst h;exact⟨Aa,hb⟩
def Px(g:Nat->Nat->Value):∀(Z:List Nat) (k j:Nat),k<Z.length->j<14->(Z.flatMap fun i=>(row 14 (EQ (g i))).toList)[k*14+j]?=some (EQ (g (Z.getD k 0)) j)
 |[],k,j,hk,_=>by simp at hk
 |a::Z,0,j,_,hj=>by
  rw[List.flatMap_cons,Nat.zero_mul,Nat.zero_add,List.getElem?_append_left (by rw[Array.length_toList,Ag];exact hj),Gd,List.getElem?_map,List.getElem?_range hj];rfl
 |a::Z,k+1,j,hk,hj=>by
  rw[List.flatMap_cons,List.getElem?_append_right (by rw[Array.length_toList,Ag];omega),Array.length_toList,Ag,show(k+1)*14+j-14=k*14+j by omega,Px g Z k j (by simpa using hk) hj]
  rfl
open Classical in
noncomputable def codeOf(c:Du)(x:He):Int:=
 if x.bad< -1\/3<x.bad\/c.fr<0\/1073741824<=c.fr then 3 else if 400<x.ls.length then 6 else if ∃i,i<4/\c.F i 0≠ .int .i64 (i:Int)then 7 else 0
def Qk(i:Nat):Value:=if Ar i then .int .i64 0 else .bool false
def Ld:Du:=⟨0,fun _=>Qk,fun _=>[]⟩
noncomputable def Bd(c:Du)(x:He):Du:=if codeOf c x=0 then next c x else Ld
noncomputable def Rj(c:Du)(x:He):Nat:=if codeOf c x=0 then(Bz x.bad 4).length else 0
noncomputable def WE(c:Du)(x:He):List Value:=if codeOf c x=0 then Gy c x 4 else []
def NG:zeroCells40=row 297 (Ak Ld.fr Ld.F (AO (fun _=>none) Ld.V (fun _=>0))):=Ap
def Qg(lo:Nat)(w w':World)(r:Du)(n:Nat)(L:List Value)(k:Int)(e:Ending):Prop:=
 ∃Z Y X U,e=.returned (.tuple #[.agg (row 297 (Ak r.fr r.F (AO Z r.V Y))),.slice X n U,.int .i64 k])/\(∀i,i<4->(Z i=none->Y i=0)/\(r.V i).length<=Y i/\Rd w' w'.heap.size 1 (Z i) (r.V i).length (Au (r.V i)))/\Rd w' w'.heap.size 14 X n L/\Below w.heap.size w w'/\(∀i,i<4->0<(r.V i).length->∀a,Z i=some a->lo<=a.block)/\∀a,X=some a->lo<=a.block
structure l5(c:Du):Prop where
 ok:∀i,i<4->∀j,j<73->C9 (Ar j) (c.F i j)
 wf:∀i,i<4->∀j z,j<73->c.F i j=.int .i64 z->Wf z
 v:∀i,i<4->(c.V i).length<=140737488351232
def Ic{c:Du}{x:He}(Z:l5 c)(h:codeOf c x=0):Gi c/\(-1<=x.bad/\x.bad<=3)/\x.ls.length<=400:=by
 unfold codeOf at h
 split at h
 . omega
 split at h
 . omega
 split at h
 . omega
 rename_i h1 h2 h3
 refine⟨⟨fun i hi=>?_,Z.ok,Z.wf,Aa,Z.v⟩,Aa,Aa⟩;exact Classical.byContradiction fun e=>h3 ⟨i,hi,e⟩
def Pd{c:Du}{x:He}(O:l5 c)(h:codeOf c x≠0):(codeOf c x=3/\(x.bad< -1\/3<x.bad\/c.fr<0\/1073741824<=c.fr))\/
  (codeOf c x=6/\(-1<=x.bad/\x.bad<=3/\0<=c.fr/\c.fr<1073741824)/\400<x.ls.length)\/
  (codeOf c x=7/\(-1<=x.bad/\x.bad<=3/\0<=c.fr/\c.fr<1073741824)/\x.ls.length<=400/\∃X,X<4/\(∀i,i<X->c.F i 0=.int .i64 (i:Int))/\∃Z,c.F X 0=.int .i64 Z/\Z≠(X:Int)):=by
 unfold codeOf at h ⊢
 split at h
 .rename_i h1
  rw[Ao h1];exact .inl ⟨rfl,h1⟩
 rename_i h1
 rw[Aj h1]
 split at h
 .rename_i h2
  rw[Ao h2];exact .inr (.inl ⟨rfl,Aa,h2⟩)
 rename_i h2
 rw[Aj h2]
 split at h
 .rename_i h3
  rw[Ao h3];refine .inr (.inr ⟨rfl,Aa,Aa,?_⟩)
  have V:∀i,i<4->∃z:Int,c.F i 0=.int .i64 z:=fun i hi=>by
   obtain⟨z,V⟩:=O.ok i hi 0 Aa;exact⟨z,V⟩
  have step:∀j,j<4->(∀i,i<j->c.F i 0=.int .i64 (i:Int))->(∃Z,c.F j 0=.int .i64 Z/\Z≠(j:Int))\/∀i,i<j+1->c.F i 0=.int .i64 (i:Int):=fun j I N=>by
   obtain⟨z,Y⟩:=V j I
   by_cases e:z=(j:Int)
   .refine .inr fun i hi=>?_
    by_cases L:i=j
    . subst L;rw[Y,e]
    exact N i Aa
   exact .inl ⟨z,Y,e⟩
  rcases step 0 Aa (fun i hi=>absurd hi Aa)with g|U
  . exact⟨0,Aa,fun i hi=>absurd hi Aa,g⟩
  rcases step 1 Aa U with g|R
  . exact⟨1,Aa,U,g⟩
  rcases step 2 Aa R with g|T
  . exact⟨2,Aa,R,g⟩
  rcases step 3 Aa T with g|J
  . exact⟨3,Aa,T,g⟩
  obtain⟨i,hi,M⟩:=h3;exact absurd (J i Aa) M
 exact absurd rfl h
def Nl{c:Du}{x:He}(Y:l5 c):(∀i,i<4->∀j,j<73->C9 (Ar j) ((Bd c x).F i j))/\∀i,i<4->((Bd c x).V i).length<=140737488351232:=by
 unfold Bd
 by_cases h:codeOf c x=0
 .rw[Ao h];obtain⟨Z,_,_⟩:=Ic Y h;exact⟨Dr.new (WV (YA (x:=x) Z 5 Aa)) (YA (x:=x) Z 5 Aa),jD Z 5⟩
 rw[Aj h]
 refine⟨fun i _ j _=>?_,fun i _=>by show([]:List Bool).length<=_;simp⟩
 show C9 (Ar j) (Qk j)
 unfold Qk
 cases Ar j
 . exact⟨false,rfl⟩
 exact⟨0,rfl⟩
end Cf
namespace Cf
open Go.ChangeShapes Go.WideShapes Go.ChangeAt Go.RowKit Mem Rws Nd Cl Flat
section
variable {P : Program} {ops : Array Oper} {rest : List Oper} {o : Oper} {a : Act} {w : World} {Q : Exit -> Act -> World -> Prop}
def Ul{t:TypeId}{d:Nat}{ls:List Bool}(R:RO P d t=some ls)(T:d<=10000){u:TypeDesc}(O:P.underlying t=some u)(V:u.isRow=true)(hi:(P.info? t).map (·.size)=some ls.length)(xs:Array Value)(Y:xs.size=ls.length)(X:Typed ls xs.toList)(w:World):
  (binOp .neq t (.agg xs) (.agg xs)).run P w=.ok (.bool false) w:=by
 obtain⟨v,Z,U⟩:=Flat.refl d t ls R xs 0 (by rw[List.drop_zero,←Y,←Array.length_toList,List.take_length];exact X) hi w;rw[II O V hi]at Z
 have e:xs.extract 0 (0+ls.length)=xs:=by rw[Nat.zero_add,←Y];simp
 rw[e]at Z
 injection Z with Z
 subst Z;rw[run_neq_struct,U 10000 T];rfl
def NW{t:TypeId}(hq:P.eqGuardType P.depth t=false)(x y:Operand)(Z Y:Array Value)(w:World):(eqGuard .neq t x y (.agg Z) (.agg Y)).run P w=.ok () w:=by
 unfold eqGuard
 simp[run_program,hq]
end
def pV:List Bool:=[true,true,true,true,true,true,true,true,true,false,false,false,false,false]
def ah{f:Nat->Value}(h:∀i,i<73->C9 (Ar i) (f i)):Flat.Typed pV ((List.range 14).map (EQ f)):=by
 have hi:∀i,i<73->Ar i=true->∃k n,f i=Value.int k n:=fun i hi Y=>by
  have Z:=h i hi;rw[Y]at Z;obtain⟨n,e⟩:=Z;exact⟨_,_,e⟩
 have hb:∀i,i<73->Ar i=false->∃c,f i=Value.bool c:=fun i hi Y=>by
  have Z:=h i hi;rw[Y]at Z;exact Z
 exact⟨hi 0 Aa rfl,hi 1 Aa rfl,hi 67 Aa rfl,hi 68 Aa rfl,hi 69 Aa rfl,hi 6 Aa rfl,hi 13 Aa rfl,hi 20 Aa rfl,hi 70 Aa rfl,hb 72 Aa rfl,hb 27 Aa rfl,hb 28 Aa rfl,hb 29 Aa rfl,hb 30 Aa rfl,trivial⟩
def Rm{P:Program}{o:Oper}{a:Act}(t u:TypeId)(x y:Operand)(Y:o.op=.binOp .neq t x y u){d:Nat}{ls:List Bool}(V:RO P d t=some ls)(X:d<=10000){e:TypeDesc}(U:P.underlying t=some e)(Z:e.isRow=true)(hi:(P.info? t).map (·.size)=some ls.length)(hq:P.eqGuardType P.depth t=false)(f:Nat->Value)(hx:a.eval x=.agg (row ls.length f))(hy:a.eval y=.agg (row ls.length f))(ht:Typed ls ((List.range ls.length).map f))(w:World):(execOp a.eval o).run P w=.ok (.value (.bool false)) w:=by
 unfold execOp
 simp only[Y,hx,hy,Sem.run_bind,NW hq,Ul V X U Z hi _ (Ag _ _) ht,Result.andThen_ok,Sem.run_pure]
end Cf
namespace Cf
open Go.ChangeShapes Go.WideShapes Go.ChangeAt Go.RowKit Mem Rws Nd Cl
def ZC{w:World}{b:Nat}{Y:Int}{F:Nat->Nat->Value}{S:Nat->Value}(h:Ae w b 40 (row 297 (Ak Y F S))){i:Nat}(hi:i<4):w.rangeAt b (1+i*74) ((List.range 74).map (Ab (F i) (S i))):=by
 have h:=Dx h (1+i*74) 74 Aa
 rw[List.map_congr_left (g:=Ab (F i) (S i)) (fun j Z=>by
  have Z:=List.mem_range.1 Z
  unfold Ak
  rw[Aj Aa,show(1+i*74+j-1)/74=i by omega,show(1+i*74+j-1)%74=j by omega])]at h
 exact h
def OT(X:Int)(F:Nat->Nat->Value)(z:∀i,i<4->∀j,j<73->C9 (Ar j) (F i j))(V:Nat->List Bool)(r:∀i,i<4->(V i).length<=140737488355328)(O R:Nat->Option Addr)(L M:Nat->Nat)(w:World)(hr1:∀i,i<4->Rd w w.heap.size 1 (O i) (V i).length (Au (V i)))(hr2:∀i,i<4->Rd w w.heap.size 1 (R i) (V i).length (Au (V i))):
  Calls prog 10 #[.agg (row 297 (Ak X F (AO O V L))),.agg (row 297 (Ak X F (AO R V M)))] w fun e w'=>e=.returned (.bool true)/\Below w.heap.size w w':=by
 have x:=zz z;have u:=zz r;have v:=zz hr1;have y:=zz hr2;clear z r hr1 hr2;obtain⟨D,I⟩:=AJ (row 297 (Ak X F (AO O V L)));obtain⟨C,E⟩:=AJ (row 297 (Ak X F (AO R V M)));rw[I,E];have A:=zz I;have B:=zz E;clear I E;have U:Hid (Ae ((w.alloc (.cells D 40)).alloc (.cells C 40)) w.heap.size 40 D):=zz ((Ae.new rfl).alloc _);have T:Hid (Ae ((w.alloc (.cells D 40)).alloc (.cells C 40)) (w.heap.size+1) 40 C):=zz (Ae.new Bq);have Y:=zz (((Below.refl w.heap.size w).alloc Nr (.cells D 40)).alloc Bq (.cells C 40))
 go_in
 go_wp2_with fail
 generalize((w.alloc (.cells D 40)).alloc (.cells C 40))=W at*
 go_loopw[6] (fun i wr=>∃k:Nat,k<=4/\i=.int .i64 k/\Ae wr w.heap.size 40 D/\Ae wr (w.heap.size+1) 40 C/\Below w.heap.size w wr) (fun i _=>4-(intOf i).toNat)
 .exact⟨0,Aa,rfl,U.o,T.o,Y.o⟩
 clear U T Y;obtain⟨k,d,rfl,p,s,hb⟩:=hrel;have U:=zz p;have T:=zz s;have Y:=zz hb;clear p s hb
 by_cases Z:k<4
 .have l:(0:Int)<=(k:Int):=Aa;have f:(k:Int)<4:=Aa
  go_upto_region 4 with fail
  have U:=zz U.o.drew;have T:=zz T.o.drew;have Y:=zz Y.o.drew;have q:=ZC (S:=AO O V L) (by rw[A.o];exact U.o) Z;have t:=ZC (S:=AO R V M) (by rw[B.o];exact T.o) Z;have G:(fun w'=>w'.rangeAt w.heap.size (1+k*74) ((List.range 74).map (Ab (F k) (.slice (O k) (V k).length (L k))))/\w'.rangeAt (w.heap.size+1) (1+k*74) ((List.range 74).map (Ab (F k) (.slice (R k) (V k).length (M k))))) wr.drew:=⟨q,t⟩;clear q t;refine wp_region_noPanic ?_;refine A8 [3,7] (fun w'=>w'.rangeAt w.heap.size (1+k*74) ((List.range 74).map (Ab (F k) (.slice (O k) (V k).length (L k))))/\w'.rangeAt (w.heap.size+1) (1+k*74) ((List.range 74).map (Ab (F k) (.slice (R k) (V k).length (M k))))) Ap ?_
  generalize wr.drew=wv at*
  refine Ac 0 ?_;refine Ac 1 ?_;refine Ac 2 ?_;refine Ba 3 (.agg (row 74 (Ab (F k) (.slice (O k) (V k).length (L k))))) G (hy:=?_) (h:=?_)
  . (intro w' J;exact BK 37 _ rfl w.heap.size (1+k*74) 74 rfl _ _ J.1 underlying37 rfl Ap)
  refine Ac 4 ?_;refine Ac 5 ?_;refine Ac 6 ?_;refine Ba 7 (.agg (row 74 (Ab (F k) (.slice (R k) (V k).length (M k))))) G (hy:=?_) (h:=?_)
  . (intro w' J;exact BK 37 _ rfl (w.heap.size+1) (1+k*74) 74 rfl _ _ J.2 underlying37 rfl Ap)
  refine Aw 8 ?_;refine AX ?_ ?_
  . kernel_rfl
  intro K hK;rw[Ao Bb];go_simp
  go_at_call 32
  refine(TJ (F k) (x.o k Z) (O k) (R k) (L k) (M k) (V k) wv.heap.size wv Nr (u.o k Z) (((v.o k Z).below Y.o).more Y.o.size) (((y.o k Z).below Y.o).more Y.o.size)).mono ?_;rintro e c ⟨rfl,N⟩;have U:=AU U N;have T:=AU T N;have Y:=CU Y N;clear N G;refine hK.o _ _ ?_;refine Ac 9 ?_;refine Bg Ap ?_ _;refine NoPanic.normal ?_;go_wp2_with fail;exact⟨⟨k+1,Aa,BG,U.o,T.o,Y.o⟩,Ck⟩
 obtain rfl:k=4:=Aa;clear Z;have m:=U.o.cell 0;have n:=T.o.cell 0
 rw[←A.o,Ah Aa,show Ak X F (AO O V L) 0=.int .i64 X from rfl]at m
 rw[←B.o,Ah Aa,show Ak X F (AO R V M) 0=.int .i64 X from rfl]at n
 have g:(X==X)=true:=Bq;go_wp2_with fail
 go_ret
 exact⟨rfl,Y.o⟩
def Nk(n:Nat)(j:n<=800)(L:List Value)(u:∀k,k<n->∃g:Nat->Value,(∀i,i<14->L[k*14+i]?=some (EQ g i))/\∀i,i<73->C9 (Ar i) (g i))(A B:Option Addr)(ca cb:Nat)(w:World)(hr1:Rd w w.heap.size 14 A n L)(hr2:Rd w w.heap.size 14 B n L):
  Calls prog 11 #[.slice A n ca,.slice B n cb] w fun e w'=>e=.returned (.bool true)/\Below w.heap.size w w':=by
 have m:=zz u;have C:=zz hr1;have D:=zz hr2;clear u hr1 hr2;have x:((n:Int)!=(n:Int))=false:=Bq
 go_in
 go_wp2_with fail;clear x
 go_loopw[13] (fun v wr=>∃k:Nat,k<=n/\v=.int .i64 (k:Int)/\Below w.heap.size w wr) (fun v _=>n-(intOf v).toNat)
 .exact⟨0,Aa,rfl,Below.refl _ _⟩
 obtain⟨k,l,rfl,hb⟩:=hrel;have Z:=zz hb;clear hb
 by_cases R:k<n
 .have q:(0:Int)<=(k:Int):=Aa;have r:(k:Int)<(n:Int):=Aa;obtain⟨g,U,z⟩:=m.o k R;have y:=zz (ah z);obtain⟨G,E,rfl,N,T⟩:=C.o.2 Aa;obtain⟨M,F,rfl,O,J⟩:=D.o.2 Aa
  have s:wr.drew.rangeAt G (E+k*14) ((List.range 14).map (EQ g)):=fun i v V=>by
   have hi:i<14:=by have:=(List.getElem?_eq_some_iff.1 V).1;simpa using this
   rw[List.getElem?_map,List.getElem?_range hi]at V;have I:=T _ _ (U i hi);rw[←Nat.add_assoc]at I;rw[Z.o.drew.cell (p:=⟨G,E+k*14+i,none⟩) N,I];exact V
  have t:wr.drew.rangeAt M (F+k*14) ((List.range 14).map (EQ g)):=fun i v V=>by
   have hi:i<14:=by have:=(List.getElem?_eq_some_iff.1 V).1;simpa using this
   rw[List.getElem?_map,List.getElem?_range hi]at V;have I:=J _ _ (U i hi);rw[←Nat.add_assoc]at I;rw[Z.o.drew.cell (p:=⟨M,F+k*14+i,none⟩) O,I];exact V
  have Z:=zz Z.o.drew;clear U T J N O
  go_upto_region 6 with fail
  have X:(fun w'=>w'.rangeAt G (E+k*14) ((List.range 14).map (EQ g))/\w'.rangeAt M (F+k*14) ((List.range 14).map (EQ g))) wr.drew:=⟨s,t⟩;clear s t;refine wp_region_noPanic ?_;refine A8 [3,7] (fun w'=>w'.rangeAt G (E+k*14) ((List.range 14).map (EQ g))/\w'.rangeAt M (F+k*14) ((List.range 14).map (EQ g))) Ap ?_
  generalize wr.drew=wv at*
  refine Ac 0 ?_;refine Ac 1 ?_;refine Ac 2 ?_;refine Ba 3 (.agg (row 14 (EQ g))) X (hy:=?_) (h:=?_)
  . (intro w' Y;exact BK 70 _ rfl G (E+k*14) 14 rfl _ _ Y.1 underlying70 rfl Ap)
  refine Ac 4 ?_;refine Ac 5 ?_;refine Ac 6 ?_;refine Ba 7 (.agg (row 14 (EQ g))) X (hy:=?_) (h:=?_)
  . (intro w' Y;exact BK 70 _ rfl M (F+k*14) 14 rfl _ _ Y.2 underlying70 rfl Ap)
  (try simp only[Rg.lp]);refine Rg.tp 8 ⟨some 24,.binOp .neq 70 (.tmp 19) (.tmp 23) 70,_,_,_,none⟩ (v:=.bool false) rfl ?_ ?_
  . (intro w;exact Rm 70 _ _ _ rfl (d:=20) (ls:=pV) Ap Aa underlying70 rfl Ap Ap (EQ g) rfl rfl y.o w)
  (try simp only[Rg.lp]);refine Bg Ap ?_ _;refine NoPanic.normal ?_;clear X;go_wp2_with fail;exact⟨⟨k+1,Aa,BG,Z.o⟩,Ck⟩
 obtain rfl:k=n:=Aa;clear R;go_wp2_with fail
 go_ret
 exact⟨rfl,Z.o⟩
end Cf
namespace Cf
open Go.ChangeShapes Go.WideShapes Go.ChangeAt Go.RowKit Mem Rws Nd Cl
def MF(Y:Nat->Int)(Z:Int)(A:Option Addr)(n c j:Nat):(BP Y Z (.slice A n c) j).oneCell'=true:=by unfold BP;split;rfl;split<;>rfl
def OU(Z:Nat->Int)(b:Int)(L Y:Value):(row 14 (BP Z b L)).setIfInBounds 13 Y=row 14 (BP Z b Y):=by
 rw[Di];refine AA fun j X=>?_
 unfold BP
 by_cases e:j=13
 . rw[Ao e,Aj Aa,Aj Aa]
 rw[Aj e]
 by_cases h:j<12
 . rw[Ao h,Ao h]
 rw[Aj h,Aj h,Ao Aa,Ao Aa]
def l8:Elem prog 49 43 (.agg VB) 14 128:=⟨underlying49,Ap,rfl,Aa⟩
end Cf
namespace Cf
open Go.ChangeShapes Go.WideShapes Go.ChangeAt Go.RowKit Mem Rws Nd Cl
def jy:Elem prog 41 76 (.agg #[.int .i64 0,.int .i64 0,.slice none 0 0]) 3 40:=⟨underlying41,Ap,rfl,Aa⟩
def DT(w:World)(B:Nat)(A:Option Addr)(c:Nat)(ls:List IC):Prop:=
 ∃Z,w.ownsRow B 76 3 (.slice A ls.length c) ls.length Z/\∀i l,ls[i]?=some l->∃a Y,(Z.drop (i*3)).take 3=Ov l a Y/\w.ownsRow B 5 1 (.slice a l.bs.length Y) l.bs.length (Sm.Br l.bs)/\l.bs.length<=140737488351232/\∀x∈l.bs,x<256
def Y4{w:World}{base:Nat}{e:TypeId}{size n c:Nat}{A:Option Addr}{Y:List Value}(h:w.ownsRow base e size (.slice A n c) n Y):c<=9223372036854775807:=by
 obtain⟨X,V,e,U,Z,_⟩:=Ip h
 injection e with _ _ e
 subst e
 unfold maxLen at Z;omega
def DT.at{w:World}{B:Nat}{A:Option Addr}{c:Nat}{ls:List IC}(h:DT w B A c ls):Co w w.heap.size A ls/\(A=none->c=0)/\ls.length<=c/\c<=9223372036854775807:=by
 obtain⟨T,Y,V⟩:=h;refine⟨⟨T,Rd.Bu Y,fun i l U=>?_⟩,(BU Y).1,(BU Y).2,Y4 Y⟩;obtain⟨a,R,O,Z,N,X⟩:=V i l U;exact⟨a,R,O,(BU Z).1,(BU Z).2,⟨N,Y4 Z⟩,X,Rd.Bu Z⟩
def DT.nil(w:World)(B:Nat):DT w B none 0 []:=⟨[],World.ownsRow_nil _ _ _ _,fun i l h=>by simp at h⟩
def DT.below{w w':World}{B:Nat}{A:Option Addr}{c:Nat}{ls:List IC}(h:DT w B A c ls)(hb:Below w.heap.size w w'):DT w' B A c ls:=by
 obtain⟨R,N,Z⟩:=h;refine⟨R,ownsRow_below N hb,fun i l T=>?_⟩;obtain⟨a,O,X,Y,V,U⟩:=Z i l T;exact⟨a,O,X,ownsRow_below Y hb,V,U⟩
def UM{w:World}{base:Nat}{e t:TypeId}{size n g:Nat}{v:Value}{T:List Value}{cs:Array Value}(h:w.ownsRow base e size v n T)(hb:Ae w g t cs)(U:e≠t):v.ownBlock≠some g:=fun Y=>by
 obtain⟨V,t',Z,X⟩:=Ms.Fb h U g Y
 unfold Ae at hb
 rw[hb]at Z
 injection Z with Z
 injection Z with _ Z _
 exact X Z.symm
def DT.kept{w w':World}{B:Nat}{A:Option Addr}{c:Nat}{ls:List IC}(h:DT w B A c ls){row:Option Nat}(U:w.grownBy w' row)(T:∀g,row=some g->∃Z t,w.heap[g]?=some (.cells Z t (0,0))/\t≠76/\t≠5):DT w' B A c ls:=by
 obtain⟨M,J,R⟩:=h;refine⟨M,Ew J U (fun g e=>by obtain⟨Z,t,Y,X,V⟩:=T g e;exact⟨Z,t,Y,X⟩),fun i l N=>?_⟩;obtain⟨a,L,Y,X,V,O⟩:=R i l N;exact⟨a,L,Y,Ew X U (fun g e=>by obtain⟨Z,t,Y,X,V⟩:=T g e;exact⟨Z,t,Y,V⟩),V,O⟩
def DT.weaken{w:World}{B Y:Nat}{A:Option Addr}{c:Nat}{ls:List IC}(h:DT w B A c ls)(Z:Y<=B):DT w Y A c ls:=by
 obtain⟨N,L,X⟩:=h;refine⟨N,Bf L Z,fun i l O=>?_⟩;obtain⟨a,M,U,V,T,R⟩:=X i l O;exact⟨a,M,U,Bf V Z,T,R⟩
def DT.snoc{w w':World}{B:Nat}{A N:Option Addr}{c V n:Nat}{ls:List IC}{U:List Value}(M:ls.length=n)(R:w.ownsRow B 76 3 (.slice A n c) n U)(hx:∀i l,ls[i]?=some l->∃a V,(U.drop (i*3)).take 3=Ov l a V/\w.ownsRow B 5 1 (.slice a l.bs.length V) l.bs.length (Sm.Br l.bs)/\l.bs.length<=140737488351232/\∀x∈l.bs,x<256){l:IC}{a:Option Addr}{ca:Nat}(hn:w.ownsRow B 5 1 (.slice a l.bs.length ca) l.bs.length (Sm.Br l.bs))(hb:l.bs.length<=140737488351232)(hb2:∀x∈l.bs,x<256)(hg:w.grownBy w' (Value.slice A n c).ownBlock)(ho':w'.ownsRow B 76 3 (.slice N (n+1) V) (n+1) (U++Ov l a ca)):DT w' B N V (ls++[l]):=by
 have T:∀ {a:Option Addr} {m O:Nat} {ys:List Value},w.ownsRow B 5 1 (.slice a m O) m ys->w'.ownsRow B 5 1 (.slice a m O) m ys:=fun h=>Ew h hg (Ms.Fb R El)
 have Z:(ls++[l]).length=n+1:=by rw[List.length_append,M];rfl
 have X:U.length=n*3:=R.1;refine⟨U++Ov l a ca,by rw[Z];exact ho',fun i m Y=>?_⟩
 by_cases e:i<n
 .rw[List.getElem?_append_left Aa]at Y;obtain⟨J,L,G,I,F,E⟩:=hx i m Y;exact⟨J,L,by rw[MS X i e];exact G,T I,F,E⟩
 have hi:i<n+1:=by rw[←Z];exact(List.getElem?_eq_some_iff.1 Y).1
 obtain rfl:i=n:=Aa;rw[List.getElem?_append_right Aa,M,Nat.sub_self,List.getElem?_cons_zero]at Y
 injection Y with Y
 subst Y;exact⟨a,ca,MU X rfl,T hn,hb,hb2⟩
end Cf
end Go.Proofs.YtjobajeggllmiaaGreat
