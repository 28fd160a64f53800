import Derived.Test.YtjobajeggllmiaaGreatPc0
import Derived.Test.YtjobajeggllmiaaGreatPc27
import Derived.Test.YtjobajeggllmiaaGreatPc29
import Derived.Test.YtjobajeggllmiaaGreatPc30
set_option linter.all false
set_option maxHeartbeats 100000000
set_option maxRecDepth 100000
namespace Go.Proofs.YtjobajeggllmiaaGreat
open Ms _root_.Go.Proofs.Tryz
namespace Cf
open Go.ChangeShapes Go.WideShapes Go.ChangeAt Go.RowKit Mem Rws Nd Cl
def KS{P:Program}{f:FuncId}{Z:Func}{W:Code}(Y:P.funcs[f]?=some Z)(hname:(Z.name== "runtime.NumGoroutine")=false)(hb:Z.body=some W)(args:Array Value)(w:World):(callFunc f args).run P w=.ok (.enter f args) w:=by
 have X:Z.name≠ "runtime.NumGoroutine" :=by simpa using hname
 simp[callFunc,Y,X,hb]
def Td{w X Y:World}{R:Nat}(h:ZF w X R)(k:ZF X Y R):ZF w Y R:=⟨Nat.le_trans h.1 k.1,fun b hb Z=>(k.2 b (Nat.lt_of_lt_of_le hb h.1) Z).trans (h.2 b hb Z)⟩
def Ma{w Z:World}{R b:Nat}{t:TypeId}{cs:Array Value}(h:ZF w Z R)(hb:Ae w b t cs)(Y:b≠R):Ae Z b t cs:=(h.2 b hb.lt Y).trans hb
def dQ{w Z:World}{R B:Nat}{A:Option Addr}{ls:List IC}(h:ZF w Z R)(Y:Co w B A ls)(X:B<=w.heap.size)(W:B<=R):Co Z B A ls:=Y.keep fun b o hb=>IW (h.2 b Aa Aa) o
def JP{α:Type}(Z:Int)(G:Nat->α)(n:Nat):Dv Z G G n=G:=funext fun i=>by unfold Dv;split<;>rfl
structure NZ(w0 wk:World)(gR gC:Nat)(x:He)(LA:Option Addr)(F:Nat->Nat->Value)(V:Nat->List Bool)(X:Nat->List Cw)(s:Bl):Prop where
 run:Cj wk gR gC s
 hF:s.F=F
 hV:s.VL=V
 hX:s.bX=X
 bad:s.bad=x.bad
 la:s.LA=LA
 ll:s.LL=x.ls.length
 old:ZF w0 wk gR
 os:wk.os=w0.os
 tape:wk.tape=w0.tape
 output:wk.output=w0.output
 va:∀j,j<4->∀a,s.VA j=some a->gR<a.block
def NZ.go{w0 wk:World}{gR gC:Nat}{x:He}{LA:Option Addr}{F:Nat->Nat->Value}{V:Nat->List Bool}{X:Nat->List Cw}{s:Bl}(h:NZ w0 wk gR gC x LA F V X s)(L:Co w0 gC LA x.ls)(v:gC<=w0.heap.size)(N:gC<=gR)(l:x.ls.length<=400)(ph:Int)(g:Nat)(lb:Array Value)(eg:∀Z w,(callFunc g Z).run prog w=.ok (.enter g Z) w)(G:Nat->Nat->Value)(V':Nat->List Bool)(k fr:Int)(mz:Nat->List Int)(hV:∀i,i<4->(V' i).length<=140737488351232)(hz:∀i,i<4->(mz i).length*8<=140737488351232)(hG:∀i,i<4->∀j,j<73->C9 (Ar j) (G i j))(hf:∀i:Nat,i<4->(i:Int)≠x.bad->∀(W:World) (A:Option Addr) (c:Nat) (AI:Option Addr) (ci:Nat),ZF w0 W gR->(A=none->c=0)->(V i).length<=c->(V i).length<=140737488351232->Rd W W.heap.size 1 A (V i).length (Au (V i))->Cc W W.heap.size AI (X i)->
   Calls prog g (#[.agg (row 74 (Ab (F i) (.slice A (V i).length c))),.slice AI (X i).length ci]++lb) W fun e w'=>Ej W w' (G i) (V' i) k (i:Int) fr (mz i) e):
  Calls prog 14 #[.pointer (some ⟨gR,0,none⟩),.int .i64 ph,.func (.func g) #[] lb] wk fun e w'=>e=.returned (.tuple #[])/\∃s',NZ w0 w' gR gC x LA (Dv x.bad G F 4) (Dv x.bad V' V 4) (LZ x.bad ph x.ls (fun _=>k) dB (fun _=>fr) mz 4) s':=by
 obtain⟨E,rfl,rfl,rfl,U,C,H,R,y,I,J,M⟩:=h;have n:=E.blk.lt;refine(aF gR gC s ph g lb eg x.ls H l wk E (by rw[C];exact dQ R L v N) G V' (fun _=>k) dB (fun _=>fr) mz hV hz hG (fun i hi hb W A c AI ci O=>?_)).mono ?_
 . exact hf i hi (by rw[←U];exact hb) W A c AI ci (Td R O)
 rintro e w' ⟨rfl,O,t,B,p,s',u,⟨b,d,z,r,f,e6⟩,q,m,o,T⟩
 exact⟨rfl,s',u,by rw[q,U],by rw[m,U],by rw[o,U],z.trans U,r.trans C,f.trans H,Td R O,t.trans y,B.trans I,p.trans J,fun j D a e=>by
  rcases T j D with Y|Y
  . exact M j D a (Y.symm.trans e)
  have:=Y a e;omega⟩
section
variable {w0 wk : World} {gR gC : Nat} {c : Du} {x : He} {LA : Option Addr} {s : Bl}
def Fa(Z W:Int)(ls:List IC)(X Y U:Nat->Int)(T:Nat->List Int)(R:ls.length<=400)(j:Nat):(LZ Z W ls X Y U T 4 j).length<=140737488355328:=by
 have:=NH Z W ls X Y U T R j 4;omega
def Dr(F:Nat->Nat->Value):Prop:=∀i,i<4->∀j,j<73->C9 (Ar j) (F i j)
def Dr.new{Z:Int}{G F:Nat->Nat->Value}(Y:Dr G)(hF:Dr F):Dr (Dv Z G F 4):=fun i hi=>by
 by_cases h:(i:Int)=Z
 . rw[Dw h];exact hF i hi
 rw[DV hi h];exact Y i hi
def all1(Z:Gi c):Dr (F1 c x):=Dr.new (fun i hi=>JL (Z.ok i hi) _ _ hi _ _ _) Z.ok
def mY(h:Dr (F1 c x)):Dr (G2 c x):=fun i hi=>Im (h i hi) _ _ Nr
def all2(h:Dr (F1 c x)):Dr (F2 c x):=Dr.new (mY h) h
def nC(h:Dr (F2 c x)):Dr (G3 c x):=fun i hi=>Po (h i hi) _ hi _
def lF(h:Dr (F2 c x)):Dr (F3 c x):=Dr.new (nC h) h
def ni(h:Dr (F3 c x)):Dr (G4 c x):=fun i hi=>Pt (h i hi) _ _ Nr
def oG(h:Dr (F3 c x)):Dr (F4 c x):=Dr.new (ni h) h
def nL(h:Dr (F4 c x)):Dr (G5 c x):=fun i hi=>JN (h i hi) _
def pY(h:Dr (F4 c x)):Dr (F5 c x):=Dr.new (nL h) h
def WV(h:Dr (F5 c x)):Dr (G6 c x):=fun i hi=>Nv (h i hi) _
def qD{X:Nat->List Cw}(Y:Gi c)(h:NZ w0 wk gR gC x LA c.F c.V X s)(O:Co w0 gC LA x.ls)(C:gC+1<w0.heap.size)(J:gC+1<gR)(G:x.ls.length<=400)(hc: w0.cell? ⟨gC,0,none⟩=some (.int .i64 c.fr))(hi:∀k,k<4->w0.rangeAt (gC+1) (k*3) ((List.range 3).map fun j=>.int .i64 (x.rd (k*3+j)))):
  Calls prog 14 #[.pointer (some ⟨gR,0,none⟩),.int .i64 0,.func (.func 15) #[] #[.pointer (some ⟨gC,0,none⟩),.pointer (some ⟨gC+1,0,none⟩)]] wk fun e w'=>e=.returned (.tuple #[])/\∃s',NZ w0 w' gR gC x LA (F1 c x) c.V (X1 c x) s':=by
 have N:=h.go O Aa Aa G 0 15 #[.pointer (some ⟨gC,0,none⟩),.pointer (some ⟨gC+1,0,none⟩)] (KS func15 Ap rfl) (G1 c x) c.V 1 c.fr (mX x) Y.v (fun i hi=>by unfold mX;simp) (fun i hi=>JL (Y.ok i hi) _ _ hi _ _ _)
  (fun i Z hb W A I AI ci U E T R L D=>by
   have M:=U.1
   exact Vo (c.F i) (Y.ok i Z) i Z (Y.id i Z) c.fr x.rd A I (c.V i) AI _ ci gC (gC+1) W E T R L Aa Aa ((IW (U.2 gC Aa Aa) 0).trans hc) (fun j v H=>(IW (U.2 (gC+1) Aa Aa) _).trans (hi i Z j v H)))
 rw[JP]at N;exact N
def qF(G:Gi c)(O:Good x.bad c.fr (F1 c x))(N:Dr (F1 c x))(h:NZ w0 wk gR gC x LA (F1 c x) c.V (X1 c x) s)(U:Co w0 gC LA x.ls)(L:gC<=w0.heap.size)(Z:gC<=gR)(R:x.ls.length<=400):
  Calls prog 14 #[.pointer (some ⟨gR,0,none⟩),.int .i64 1,.func (.func 17) #[] #[]] wk fun e w'=>e=.returned (.tuple #[])/\∃s',NZ w0 w' gR gC x LA (F2 c x) c.V (X2 c x) s':=by
 have T:=h.go U L Z R 1 17 #[] (KS func17 Ap rfl) (G2 c x) c.V 2 c.fr (fun i=>dD (G2 c x i)) G.v (fun i hi=>by unfold dD;simp) (mY N)
  (fun i hi hb W A H AI ci z E Y X I M=>by
   obtain⟨D,J,C,B⟩:=O i hi hb
   exact ay (F1 c x i) C i hi D c.fr J A H (c.V i) AI ci (X1 c x i) W.heap.size W Nr E Y X I (Fa _ _ _ _ _ _ _ R i) M)
 rw[JP]at T;exact T
def qM(E:Gi c)(O:Good x.bad c.fr (F2 c x))(N:Dr (F2 c x))(h:NZ w0 wk gR gC x LA (F2 c x) c.V (X2 c x) s)(U:Co w0 gC LA x.ls)(J:gC<=w0.heap.size)(Z:gC<=gR)(R:x.ls.length<=400):
  Calls prog 14 #[.pointer (some ⟨gR,0,none⟩),.int .i64 2,.func (.func 18) #[] #[]] wk fun e w'=>e=.returned (.tuple #[])/\∃s',NZ w0 w' gR gC x LA (F3 c x) c.V (X3 c x) s':=by
 have T:=h.go U J Z R 2 18 #[] (KS func18 Ap rfl) (G3 c x) c.V 3 c.fr (fun i=>[D3 c x i]) E.v (fun i hi=>by simp) (nC N)
  (fun i hi hb W A G AI ci z D Y X H L=>by
   obtain⟨C,I,B,M⟩:=O i hi hb
   exact Kn (F2 c x i) B i hi C c.fr I A G (c.V i) AI ci (X2 c x i) W.heap.size W Nr D Y X H (Fa _ _ _ _ _ _ _ R i) L M (Ku _ _ _ _ _ _ _ _ _))
 rw[JP]at T;exact T
def qK(G:Gi c)(O:Good x.bad c.fr (F3 c x))(N:Dr (F3 c x))(h:NZ w0 wk gR gC x LA (F3 c x) c.V (X3 c x) s)(U:Co w0 gC LA x.ls)(L:gC<=w0.heap.size)(Z:gC<=gR)(R:x.ls.length<=400):
  Calls prog 14 #[.pointer (some ⟨gR,0,none⟩),.int .i64 3,.func (.func 19) #[] #[]] wk fun e w'=>e=.returned (.tuple #[])/\∃s',NZ w0 w' gR gC x LA (F4 c x) c.V (X4 c x) s':=by
 have T:=h.go U L Z R 3 19 #[] (KS func19 Ap rfl) (G4 c x) c.V 2 c.fr (fun i=>hvs (G4 c x i)) G.v (fun i hi=>by unfold hvs;simp) (ni N)
  (fun i hi hb W A H AI ci z E Y X I M=>by
   obtain⟨D,J,C,B⟩:=O i hi hb
   exact eG (F3 c x i) C i hi D c.fr J A H (c.V i) AI ci (X3 c x i) W.heap.size W Nr E Y X I (Fa _ _ _ _ _ _ _ R i) M)
 rw[JP]at T;exact T
def qI(B:Gi c)(R:Good x.bad c.fr (F4 c x))(O:Dr (F4 c x))(h:NZ w0 wk gR gC x LA (F4 c x) c.V (X4 c x) s)(U:Co w0 gC LA x.ls)(L:gC<=w0.heap.size)(Z:gC<=gR)(T:x.ls.length<=400):
  Calls prog 14 #[.pointer (some ⟨gR,0,none⟩),.int .i64 4,.func (.func 20) #[] #[]] wk fun e w'=>e=.returned (.tuple #[])/\∃s',NZ w0 w' gR gC x LA (F5 c x) (W5 c x) (X5 c x) s':=by
 exact h.go U L Z T 4 20 #[] (KS func20 Ap rfl) (G5 c x) (V5 c x) 5 c.fr (fun i=>Fy (G5 c x i)) (fun i hi=>by unfold V5 ET;simp) (fun i hi=>by rw[Ep];omega) (nL O)
  (fun i hi hb W A H AI ci C G Y X I M=>by
   obtain⟨E,J,D,N⟩:=R i hi hb
   exact dw (F4 c x i) D i hi E c.fr J A H (c.V i) AI ci (X4 c x i) W.heap.size W Nr G Y X I (Fa _ _ _ _ _ _ _ T i) M N (Ku _ _ _ _ _ _ _ _ _))
end
end Cf
namespace Cf
open Go.ChangeShapes Go.WideShapes Go.ChangeAt Go.RowKit Mem Rws Nd Cl
def NV(fr:Int)(F:Nat->Nat->Value)(S:Nat->Value)(k:Nat)(Z:k<4):(row 74 fun j=>Ak fr F S (1+k*74+j))=row 74 (Ab (F k) (S k)):=AA fun j Y=>by
 unfold Ak
 rw[Aj Aa,show(1+k*74+j-1)/74=k by omega,show(1+k*74+j-1)%74=j by omega]
def Vj(fr:Int)(F:Nat->Nat->Value)(S:Nat->Value)(i:Nat)(hi:i<4)(f:Nat->Value)(s:Value):row 297 (over (1+i*74) 74 (Ab f s) (Ak fr F S))=row 297 (Ak fr (setAt F i f) (setAt S i s)):=AA fun j Y=>by
 by_cases h:1+i*74<=j/\j<1+i*74+74
 .rw[Jl h.1 h.2]
  unfold Ak
  rw[Aj Aa,show(j-1)/74=i by omega,show(j-1)%74=j-(1+i*74)by omega,AY,AY]
 rw[Cx Aa]
 unfold Ak
 by_cases Z:j=0
 . rw[Ao Z,Ao Z]
 rw[Aj Z,Aj Z,Bj _ _ (show(j-1)/74≠i by omega),Bj _ _ (show(j-1)/74≠i by omega)]
def Zc(VA:Nat->Option Addr)(V:Nat->List Bool)(VC:Nat->Nat)(i:Nat)(A:Option Addr)(L:List Bool)(c:Nat):AO (setAt VA i A) (setAt V i L) (setAt VC i c)=setAt (AO VA V VC) i (.slice A L.length c):=funext fun j=>by
 unfold AO
 by_cases e:j=i
 . subst e;rw[AY,AY,AY,AY]
 rw[Bj _ _ e,Bj _ _ e,Bj _ _ e,Bj _ _ e]
def Ib(g:Nat):∀(Z:List Value) (o:Nat) (w:World),(w.setCells g o Z).heap.size=w.heap.size/\∀b,b≠g->(w.setCells g o Z).heap[b]?=w.heap[b]?
 |[],_,_=>⟨rfl,fun _ _=>rfl⟩
 |v::r,o,w=>by
  rw[World.setCells];have h:=Ib g r (o+1) (w.setCell ⟨g,o,none⟩ v);exact⟨h.1.trans Bq,fun b hb=>(h.2 b hb).trans (Below.heap_setCell w ⟨g,o,none⟩ v b hb)⟩
def fT(RC:Array Value)(b:Nat):Prop:=∃fr F VA V VC,RC=row 297 (Ak fr F (AO VA V VC))/\∃j a,j<4/\0<(V j).length/\VA j=some a/\a.block=b
def Y1(fr:Int)(F:Nat->Nat->Value)(S:Nat->Value){j:Nat}(Z:j<4):(row 297 (Ak fr F S))[1+j*74+73]?=some (S j):=by
 rw[Ah Aa]
 unfold Ak Ab
 rw[Aj Aa,show(1+j*74+73-1)/74=j by omega,show(1+j*74+73-1)%74=73 by omega,Ao rfl]
def fT.of{fr:Int}{F:Nat->Nat->Value}{VA:Nat->Option Addr}{V:Nat->List Bool}{VC:Nat->Nat}{b:Nat}(h:fT (row 297 (Ak fr F (AO VA V VC))) b):∃j a,j<4/\0<(V j).length/\VA j=some a/\a.block=b:=by
 obtain⟨X,O,U,R,Y,e,j,a,W,L,T,hb⟩:=h;have Z:=Y1 fr F (AO VA V VC) W;rw[e,Y1 X O (AO U R Y) W]at Z
 injection Z with Z
 unfold AO at Z
 injection Z with Z N M
 exact⟨j,a,W,Aa,Z.symm.trans T,hb⟩
structure KU(w wr:World)(fr:Int)(RC RI:Array Value)(F:Nat->Nat->Value)(VA:Nat->Option Addr)(V:Nat->List Bool)(VC:Nat->Nat):Prop where
 bC:Ae wr w.heap.size 40 RC
 bI:Ae wr (w.heap.size+1) 43 RI
 bO:Ae wr (w.heap.size+2) 40 zeroCells40
 bD:Ae wr (w.heap.size+3) 40 (row 297 (Ak fr F (AO VA V VC)))
 v:∀j,j<4->(VA j=none->VC j=0)/\(V j).length<=VC j/\Rd wr wr.heap.size 1 (VA j) (V j).length (Au (V j))/\(0<(V j).length->∀a,VA j=some a->(a.block<w.heap.size/\fT RC a.block)\/w.heap.size+5<=a.block)
 b:Below w.heap.size w wr
section
variable {w wr w' : World} {fr : Int} {RC RI : Array Value} {F : Nat -> Nat -> Value} {VA : Nat -> Option Addr} {V : Nat -> List Bool} {VC : Nat -> Nat}
def KU.below(h:KU w wr fr RC RI F VA V VC)(hb:Below wr.heap.size wr w'):KU w w' fr RC RI F VA V VC:=
 ⟨h.bC.below hb h.bC.lt,h.bI.below hb h.bI.lt,h.bO.below hb h.bO.lt,h.bD.below hb h.bD.lt,fun j Z=>⟨(h.v j Z).1,(h.v j Z).2.1,((h.v j Z).2.2.1.below hb).more hb.size,(h.v j Z).2.2.2⟩,Bh h.b Nr hb⟩
def KU.drew(h:KU w wr fr RC RI F VA V VC):KU w wr.drew fr RC RI F VA V VC:=⟨h.bC.drew,h.bI.drew,h.bO.drew,h.bD.drew,h.v,h.b.drew⟩
def Li{B size n:Nat}{A:Option Addr}{xs:List Value}(h:Rd w B size A n xs)(U:0<size)(Y:∀b,b<B->(0<n->∀a,A=some a->a.block=b->w'.heap[b]?=w.heap[b]?)):Rd w' B size A n xs:=
 ⟨h.1,fun Z=>let ⟨b,o,e,hb,X⟩:=h.2 Z;⟨b,o,e,hb,fun j u W=>(World.cell?_of_block (Y b hb Z _ e rfl)).trans (X j u W)⟩⟩
def KU.other(h:KU w wr fr RC RI F VA V VC){g:Nat}(Z:wr.grownBy w' (some g))(Y:w'.heap.size=wr.heap.size)(R:w.heap.size+4<=g)(X:∀j,j<4->0<(V j).length->∀a,VA j=some a->a.block≠g):KU w w' fr RC RI F VA V VC:=by
 have hb:∀ {b:Nat} {T:TypeId} {C:Array Value},Ae wr b T C->b<g->Ae w' b T C:=fun h L=>h.grown Z (fun e=>by injection e with e;omega);refine⟨hb h.bC Aa,hb h.bI Aa,hb h.bO Aa,hb h.bD Aa,fun j U=>?_,h.b.grown Z h.b.size (fun x e=>by injection e with e;omega)⟩;obtain⟨N,O,M,I⟩:=h.v j U;refine⟨N,O,?_,I⟩;rw[Y];exact Li M Aa fun b hb J a e H=>Z.block b hb (fun W=>by injection W with W;exact X j U J a e Aa)
def KU.node(h:KU w wr fr RC RI F VA V VC){i:Nat}(hi:i<4)(f:Nat->Value)(A:Option Addr)(L:List Bool)(c:Nat)(R:Rd wr wr.heap.size 1 A L.length (Au L))(H:A=none->c=0)(N:L.length<=c)(Z:0<L.length->∀a,A=some a->(a.block<w.heap.size/\fT RC a.block)\/w.heap.size+5<=a.block):
  KU w (wr.setCells (w.heap.size+3) (1+i*74) (row 74 (Ab f (.slice A L.length c))).toList) fr RC RI (setAt F i f) (setAt VA i A) (setAt V i L) (setAt VC i c):=by
 obtain⟨X,Y⟩:=Ib (w.heap.size+3) (row 74 (Ab f (.slice A L.length c))).toList (1+i*74) wr;refine⟨Al (w:=wr) Aa _ _ _ h.bC,Al (w:=wr) Aa _ _ _ h.bI,Al (w:=wr) Aa _ _ _ h.bO,?_,fun j G=>?_,below_setCells Aa _ _ h.b⟩
 .have:=DI h.bD (1+i*74) 74 (Ab f (.slice A L.length c));rw[Vj fr F _ i hi]at this;rw[Zc];exact this
 rw[X]
 by_cases e:j=i
 .subst e;rw[AY,AY,AY];exact⟨H,N,Li R Aa fun b _ W a U O=>Y b (by have:=Z W a U;omega),Z⟩
 rw[Bj _ _ e,Bj _ _ e,Bj _ _ e];obtain⟨J,M,I,T⟩:=h.v j G;exact⟨J,M,Li I Aa fun b _ W a U O=>Y b (by have:=T W a U;omega),T⟩
end
def Hw{α:Type}(g:Nat->α)(i:Nat):setAt g i (g i)=g:=funext fun k=>by
 by_cases e:k=i
 . subst e;exact AY _ _ _
 exact Bj _ _ e
def NT{f:Nat->Value}(Y:∀i,i<73->C9 (Ar i) (f i))(A:Option Addr)(n Z:Nat):∀j,j<74->(Ab f (.slice A n Z) j).oneCell'=true:=fun j X=>by
 have h:=Cv Y (A:=A) (n:=n) (c:=Z);rw[Array.all_eq_true_iff_forall_mem]at h;exact h _ (Array.mem_of_getElem? (Ah X))
def Zw{w:World}{B Y:Nat}{A:Option Addr}{ls:List IC}(h:Co w B A ls)(Z:B<=Y):Co w Y A ls:=by
 obtain⟨L,W,X⟩:=h;refine⟨L,W.more Z,fun i l M=>?_⟩;obtain⟨a,c,T,U,R,O,N,J⟩:=X i l M;exact⟨a,c,T,U,R,O,N,J.more Z⟩
def Zy{w:World}{B Z:Nat}{v:Value}{k f n:Int}{zs:List Int}(h:SaidAt w B v k f n zs)(Y:B<=Z):SaidAt w Z v k f n zs:=by
 obtain⟨b,A,c,W,X,O,U,T,R⟩:=h;exact⟨b,A,c,W,X,Aa,U,T.more Y,R⟩
def FE(w:World)(lo B:Nat)(v:Value)(k f n:Int)(Z:List Int):Prop:=∃b A c,v=.pointer (some ⟨b,0,none⟩)/\Ae w b 65 (BL k f n A Z.length c)/\lo<=b/\b<B/\Z.length*8<=140737488351232/\Rd w B 1 A Z.length (Ms.AQ Z)/\(∀a,A=some a->lo<=a.block)/\∀z∈Z,-9223372036854775808<=z/\z<9223372036854775808
def FE.said{w:World}{lo B:Nat}{v:Value}{k f n:Int}{zs:List Int}(h:FE w lo B v k f n zs):SaidAt w B v k f n zs:=by
 obtain⟨b,A,c,U,W,O,T,X,Y,R,Z⟩:=h;exact⟨b,A,c,U,W,T,X,Y,Z⟩
def FE.keep{w w':World}{lo B Z R:Nat}{v:Value}{k f n:Int}{zs:List Int}(h:FE w lo B v k f n zs)(W:∀b,lo<=b->b<B->w'.heap[b]?=w.heap[b]?)(hB:B<=R)(hlo:Z<=lo):FE w' Z R v k f n zs:=by
 obtain⟨b,A,c,L,Y,J,H,M,T,U,X⟩:=h;have Y:w.heap[b]?=_:=Y
 exact⟨b,A,c,L,(W b J H).trans Y,Aa,Aa,M,⟨T.1,fun I=>let ⟨b,o,e,hb,O⟩:=T.2 I;⟨b,o,e,Aa,fun j u N=>(World.cell?_of_block (W b (U _ e) hb)).trans (O j u N)⟩⟩,fun a e=>Nat.le_trans hlo (U a e),X⟩
def FE.more{w:World}{lo B Z X:Nat}{v:Value}{k f n:Int}{zs:List Int}(h:FE w lo B v k f n zs)(W:B<=X)(Y:Z<=lo):FE w Z X v k f n zs:=h.keep (fun _ _ _=>rfl) W Y
end Cf
namespace Cf
open Go.RowKit Mem Rws Nd Cl
section
variable (c : Du) (x : He)
noncomputable def Fp:Nat->Nat->Nat->Value|0=>c.F|1=>F1 c x|2=>F2 c x|3=>F3 c x|4=>F4 c x|_+5=>F5 c x
noncomputable def Vp:Nat->Nat->List Bool|0=>c.V|1=>c.V|2=>c.V|3=>c.V|4=>c.V|_+5=>W5 c x
noncomputable def Gp:Nat->Nat->Nat->Value|0=>G1 c x|1=>G2 c x|2=>G3 c x|3=>G4 c x|_+4=>G5 c x
noncomputable def Lp:Nat->Nat->List Bool|0=>c.V|1=>c.V|2=>c.V|3=>c.V|_+4=>V5 c x
def kp:Nat->Int|0=>1|1=>2|2=>3|3=>2|_+4=>5
noncomputable def zp:Nat->Nat->List Int|0=>mX x|1=>fun i=>dD (G2 c x i)|2=>fun i=>[D3 c x i]|3=>fun i=>hvs (G4 c x i)|_+4=>fun i=>Fy (G5 c x i)
noncomputable def Yp(p:Nat):Nat->List Cw:=LZ x.bad (p:Int) x.ls (fun _=>kp p) dB (fun _=>c.fr) (zp c x p) 4
end
section
variable {c : Du} {x : He}
def Pb{p:Nat}(Z:p<5):Fp c x (p+1)=Dv x.bad (Gp c x p) (Fp c x p) 4:=by
 obtain rfl|rfl|rfl|rfl|rfl:p=0\/p=1\/p=2\/p=3\/p=4:=Aa
 all_goals rfl
def Zb{p:Nat}(Z:p<5):Vp c x (p+1)=Dv x.bad (Lp c x p) (Vp c x p) 4:=by
 obtain rfl|rfl|rfl|rfl|rfl:p=0\/p=1\/p=2\/p=3\/p=4:=Aa
 rotate_right 1
 . rfl
 all_goals exact(JP _ _ _).symm
def fB{i:Nat}(hb:(i:Int)=x.bad):∀p,p<6->Fp c x p i=c.F i
 |0,_=>rfl
 |p+1,h=>by rw[Pb Aa,Dw hb,fB hb p Aa]
def dW{i:Nat}(hb:(i:Int)=x.bad):∀p,p<6->Vp c x p i=c.V i
 |0,_=>rfl
 |p+1,h=>by rw[Zb Aa,Dw hb,dW hb p Aa]
def Tm(Y:Gi c)(Z:∀i,i<12->Wf (x.rd i)){p:Nat}(X:p<5):Good x.bad c.fr (Fp c x (p+1)):=by
 obtain rfl|rfl|rfl|rfl|rfl:p=0\/p=1\/p=2\/p=3\/p=4:=Aa
 . exact QD Y Z
 . exact Si (QD Y Z)
 . exact Vk (Si (QD Y Z))
 . exact Y6 (Vk (Si (QD Y Z)))
 exact jM (Y6 (Vk (Si (QD Y Z))))
def YA(Z:Gi c):∀p,p<6->Dr (Fp c x p)
 |0,_=>Z.ok
 |1,_=>all1 Z
 |2,_=>all2 (all1 Z)
 |3,_=>lF (all2 (all1 Z))
 |4,_=>oG (lF (all2 (all1 Z)))
 |5,_=>pY (oG (lF (all2 (all1 Z))))
def ql{f:Nat->Value}(Z:∀j,j<73->C9 (Ar j) (f j))(Y:OP f)(i:Nat)(hi:i<73):Wf (iv (f i)):=by
 cases e:Ar i with
 |true=>exact Y i _ hi (Dk Z i hi e)
 |false=>
  have h:=Z i hi;rw[e]at h;obtain⟨b,hb⟩:=h;rw[hb];exact Ei
def XH{f:Nat->Value}(X:∀j,j<73->C9 (Ar j) (f j))(Y:OP f){a:Nat}(W:a<3):∀z∈kr f a,Wf z:=fun z Z=>by
 unfold kr at Z
 simp only[List.mem_cons,List.mem_nil_iff,or_false]at Z
 rcases Z with rfl|rfl|rfl|rfl|rfl|rfl|rfl
 rotate_left 5
 . unfold Qw;exact JQ (by split<;>omega)
 all_goals exact ql X Y _ Aa
def Zq(o:Nat)(f:Nat->Value):∀k,Wf (Fq o f k)
 |0=>Ei
 |k+1=>by
  unfold Fq
  exact JQ (by rw[IntKind.wrap_i64];omega)
def jT{f:Nat->Value}(Y:∀j,j<73->C9 (Ar j) (f j))(Z:OP f):∀z∈Fy f,Wf z:=fun z X=>by
 unfold Fy at X
 rcases List.mem_append.1 X with h|h
 .have h:z∈(([]++kr f 0)++kr f 1)++kr f 2:=h
  rcases List.mem_append.1 h with h|h
  .rcases List.mem_append.1 h with h|h
   . exact XH Y Z Aa z h
   exact XH Y Z Aa z h
  exact XH Y Z Aa z h
 simp only[List.mem_cons,List.mem_nil_iff,or_false]at h
 rcases h with rfl|rfl|rfl
 .have:=XI f 4;exact JQ Aa
 . exact Zq _ _ _
 exact Zq _ _ _
def ny(O:Gi c)(Y:∀i,i<12->Wf (x.rd i)){p:Nat}(R:p<5){i:Nat}(hi:i<4)(hb:(i:Int)≠x.bad):∀z∈zp c x p i,Wf z:=fun z Z=>by
 obtain⟨_,_,W,X⟩:=Tm O Y R i hi hb;rw[Pb R,DV hi hb]at W X;obtain rfl|rfl|rfl|rfl|rfl:p=0\/p=1\/p=2\/p=3\/p=4:=Aa
 .have Z:z∈mX x i:=Z
  unfold mX at Z
  simp only[List.mem_cons,List.mem_nil_iff,or_false]at Z
  rcases Z with rfl|rfl|rfl
  all_goals exact Y _ Aa
 .have Z:z∈dD (G2 c x i):=Z
  unfold dD at Z
  obtain⟨k,T,rfl⟩:=List.mem_map.1 Z;have T:=List.mem_range.1 T;exact ql W X _ Aa
 .have U:z=D3 c x i:=by simpa[zp] using Z
  rw[U];exact SS _
 .have Z:z∈hvs (G4 c x i):=Z
  unfold hvs at Z
  simp only[List.mem_cons,List.mem_nil_iff,or_false]at Z
  rcases Z with rfl|rfl|rfl|rfl
  all_goals exact ql W X _ Aa
 exact jT W X z Z
def nY(p:Nat)(i:Nat):(zp c x p i).length*8<=140737488351232:=by
 match p with
 |0=>show(mX x i).length*8<=_;unfold mX;simp
 |1=>show(dD _).length*8<=_;unfold dD;simp
 |2=>show [D3 c x i].length*8<=_;simp
 |3=>show(hvs _).length*8<=_;unfold hvs;simp
 |_+4=>show(Fy _).length*8<=_;rw[Ep];omega
def jD(Z:Gi c):∀p i,i<4->(Vp c x p i).length<=140737488351232
 |0,i,h=>Z.v i h
 |1,i,h=>Z.v i h
 |2,i,h=>Z.v i h
 |3,i,h=>Z.v i h
 |4,i,h=>Z.v i h
 |_+5,i,h=>by
  show(W5 c x i).length<=_
  by_cases hb:(i:Int)=x.bad
  . rw[show W5 c x i=c.V i from Dw hb];exact Z.v i h
  rw[show W5 c x i=V5 c x i from DV h hb];unfold V5 ET;simp
end
end Cf
end Go.Proofs.YtjobajeggllmiaaGreat
