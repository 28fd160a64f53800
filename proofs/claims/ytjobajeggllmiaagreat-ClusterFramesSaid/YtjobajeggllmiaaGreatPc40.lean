import Derived.Test.YtjobajeggllmiaaGreatPc0
import Derived.Test.YtjobajeggllmiaaGreatPc39
set_option linter.all false
set_option maxHeartbeats 100000000
set_option maxRecDepth 100000
namespace Go.Proofs.YtjobajeggllmiaaGreat
open Ms Rg _root_.Go.Proofs.Tryz
namespace Cf
open Go.ChangeShapes Go.WideShapes Go.ChangeAt Go.RowKit Mem Rws Nd Cl
def Tq(Z:Int)(F:Nat->Nat->Value)(S:Nat->Value)(k:Nat)(Y:k<4):(row 74 fun j=>Ak Z F S (1+(k*74+j)))=row 74 (Ab (F k) (S k)):=AA fun j X=>by
 unfold Ak
 rw[Aj Aa,show(1+(k*74+j)-1)/74=k by omega,show(1+(k*74+j)-1)%74=j by omega]
def KI(F:Nat->Value)(k:Nat)(Z:k<4)(w:World):(Instr.index 38 (.agg (row 296 F)) (.int .i64 (k:Int))).run prog w=.ok (.agg (row 74 fun a=>F (k*74+a))) w:=by
 obtain rfl|rfl|rfl|rfl:k=0\/k=1\/k=2\/k=3:=Aa
 all_goals kernel_rfl
def RD(F G:Nat->Value)(w:World):(Instr.build 61 #[(0,.agg (row 297 F)),(1,.agg (row 14 G))]).run prog w=.ok (.agg (row 315 fun i=>if i<297 then F i else if i<311 then G (i-297)else .slice none 0 0)) w:=run_build w _ _ _ Ap
def Dj{P:Program}{w:World}{ops:Array Oper}{rest:List Oper}{o:Oper}{a:Act}{Q:Exit->Act->World->Prop}(Z:o.guard=none)(t:TypeId)(parts:Array (Nat×Operand))(Y:o.op=.build t parts)(v:Value)(hrun:(Instr.build t (parts.map fun(i,x)=>(i,a.eval x))).run P w=.ok v w)(h:wpList P ops Q rest (a.put o.dst v) w):wpList P ops Q (o::rest) a w:=
 wpList_plain Z fun _ hK=>by
  unfold Oper.wp execOp
  simp only[Y,Sem.run_bind,hrun,Result.andThen_ok];exact hK _ _ h
def G8(c:Du)(x:He)(W:Nat->Option Addr)(Y:Nat->Nat)(Z:Option Addr)(X:Nat):Bl:=⟨c.fr,c.F,W,c.V,Y,x.rd,x.bad,Z,x.ls.length,X,fun _=>none,fun _=>[],fun _=>0⟩
def kP(c:Du)(x:He)(N:Nat->Option Addr)(R:Nat->Nat)(T:Option Addr)(O:Nat):(row 315 fun i=>if i<297 then Ak c.fr c.F (AO N c.V R) i else if i<311 then BP x.rd x.bad (.slice T x.ls.length O) (i-297)else .slice none 0 0)=row 315 (G8 c x N R T O).cell:=AA fun i hi=>by
 unfold Bl.cell G8 Ak BP AO
 by_cases Z:i=0
 . subst Z;rfl
 rw[Aj Z]
 by_cases X:i<297
 . rw[Ao X,Aj Z,Ao X];rfl
 rw[Aj X,Aj X]
 by_cases Y:i<309
 . rw[Ao Aa,Ao Aa,Aj Z,Ao Y]
 by_cases W:i=309
 . rw[Ao Aa,Aj Aa,Ao Aa,Aj Z,Aj Y,Ao W]
 by_cases U:i=310
 . rw[Ao Aa,Aj Aa,Aj Aa,Aj Z,Aj Y,Aj W,Ao U]
 rw[Aj Aa,Aj Z,Aj Y,Aj W,Aj U];rfl
def CP{F:Nat->Nat->Value}(h:Dr F)(T:Int)(V:Nat->List Bool)(X:Nat->Option Addr)(Y:Nat->Nat):∀i,i<297->(Ak T F (AO X V Y) i).oneCell'=true:=fun i hi=>by
 unfold Ak
 by_cases W:i=0
 . rw[Ao W];rfl
 rw[Aj W];have:=Cv (h ((i-1)/74) Aa) (A:=X ((i-1)/74)) (n:=(V ((i-1)/74)).length) (c:=Y ((i-1)/74));rw[Array.all_eq_true]at this;have U:=this ((i-1)%74) (by rw[Ag];omega)
 have Z:=Ah (f:=Ab (F ((i-1)/74)) (.slice (X ((i-1)/74)) (V ((i-1)/74)).length (Y ((i-1)/74)))) (show(i-1)%74<74 by omega)
 rw[Array.getElem?_eq_getElem (by rw[Ag];omega)]at Z
 injection Z with Z
 rw[Z]at U;exact U
def M5{α:Type}(g:Nat->α)(i:Nat):setAt g i (g i)=g:=funext fun k=>by
 by_cases e:k=i
 . subst e;exact AY _ _ _
 exact Bj _ _ e
def Cj.om{w:World}{R X:Nat}{s:Bl}(h:Cj w R X s){i:Nat}(hi:i<4)(A:Option Addr)(Z:Nat)(hv:(A=none->Z=0)/\(s.VL i).length<=Z/\(s.VL i).length<=140737488351232/\Rd w w.heap.size 1 A (s.VL i).length (Au (s.VL i))/\(0<(s.VL i).length->∀a,A=some a->a.block<w.heap.size/\a.block≠R/\∀j,j<4->s.own j≠some a.block)):
  Cj (w.setCell ⟨R,1+i*74+73,none⟩ (.slice A (s.VL i).length Z)) R X (s.setNode i (s.F i) A (s.VL i) Z)/\Keep w (w.setCell ⟨R,1+i*74+73,none⟩ (.slice A (s.VL i).length Z)) R s (s.setNode i (s.F i) A (s.VL i) Z):=by
 refine h.patch (Gj _ _ _ _) ?_ rfl rfl rfl fun k W=>?_
 .have:=h.blk.set (1+i*74+73) (.slice A (s.VL i).length Z);rw[Di]at this;rw[AA (g:=(s.setNode i (s.F i) A (s.VL i) Z).cell) (fun j V=>?_)]at this
  . exact this
  rw[s.NY i hi]
  by_cases e:j=1+i*74+73
  .subst e
   rw[Ao rfl,Jl Aa Aa,show 1+i*74+73-(1+74*i)=73 by omega]
   rfl
  rw[Aj e]
  by_cases Y:1+74*i<=j/\j<1+74*i+74
  .rw[Jl Y.1 Y.2]
   have:=s.TN hi (show j-(1+74*i)<74 by omega)
   rw[show 1+74*i+(j-(1+74*i))=j by omega]at this
   rw[this]
   unfold Ab
   rw[Aj Aa,Aj Aa]
  rw[Cx Aa]
 show(setAt s.VA i A k=none->setAt s.VC i Z k=0)/\(setAt s.VL i (s.VL i) k).length<=setAt s.VC i Z k/\(setAt s.VL i (s.VL i) k).length<=140737488351232/\Rd w w.heap.size 1 (setAt s.VA i A k) (setAt s.VL i (s.VL i) k).length (Au (setAt s.VL i (s.VL i) k))/\(0<(setAt s.VL i (s.VL i) k).length->∀a,setAt s.VA i A k=some a->a.block<w.heap.size/\a.block≠R/\∀j,j<4->s.own j≠some a.block)
 rw[M5]
 by_cases e:k=i
 .subst e;rw[AY,AY];exact hv
 rw[Bj _ _ e,Bj _ _ e];exact h.ver k W
def ZP(c:Du)(x:He)(X:Nat->Option Addr)(Y:Nat->Nat)(Z:Option Addr)(LC i:Nat)(A:Option Addr)(W:Nat):(G8 c x X Y Z LC).setNode i (c.F i) A (c.V i) W=G8 c x (setAt X i A) (setAt Y i W) Z LC:=by
 unfold Bl.setNode G8
 dsimp only;rw[M5,M5]
structure Kt(w w':World)(R:Nat):Prop where
 old:ZF w w' R
 os:w'.os=w.os
 tape:w'.tape=w.tape
 output:w'.output=w.output
def Kt.size{w w':World}{R:Nat}(h:Kt w w' R):w.heap.size<=w'.heap.size:=h.old.1
def Kt.refl(w:World)(R:Nat):Kt w w R:=⟨⟨Nat.le_refl _,fun _ _ _=>rfl⟩,rfl,rfl,rfl⟩
def Kt.below{w Z X:World}{R:Nat}(h:Kt w Z R)(hb:Below Z.heap.size Z X):Kt w X R:=
 ⟨⟨Nat.le_trans h.size hb.size,fun b Y W=>(hb.block b (Nat.lt_of_lt_of_le Y h.size)).trans (h.old.2 b Y W)⟩,hb.os.trans h.os,hb.tape.trans h.tape,hb.output.trans h.output⟩
def Kt.aside{w W X:World}{R g:Nat}(h:Kt w W R)(Z:W.grownBy X (some g))(U:w.heap.size<=g):Kt w X R:=
 ⟨⟨Nat.le_trans h.size Z.size,fun b Y V=>(Z.block b (Nat.lt_of_lt_of_le Y h.size) (fun e=>by injection e with e;omega)).trans (h.old.2 b Y V)⟩,Z.os.trans h.os,Z.tape.trans h.tape,Z.output.trans h.output⟩
def Kt.run{w W X:World}{R:Nat}(h:Kt w W R)(Z:W.grownBy X (some R)):Kt w X R:=
 ⟨⟨Nat.le_trans h.size Z.size,fun b Y V=>(Z.block b (Nat.lt_of_lt_of_le Y h.size) (fun e=>by injection e with e;omega)).trans (h.old.2 b Y V)⟩,Z.os.trans h.os,Z.tape.trans h.tape,Z.output.trans h.output⟩
def aJ{w w':World}{R T:Nat}{s:Bl}(h:Cj w R T s){row:Option Nat}(X:w.grownBy w' row)(V:row≠some R)(N:∀i,i<4->s.own i=none\/s.own i≠row)(O:∀g,row=some g->∃W t,w.heap[g]?=some (.cells W t (0,0))/\t≠3)(hV:∀i,i<4->0<(s.VL i).length->∀a,s.VA i=some a->row≠some a.block):Cj w' R T s:=by
 have Y:∀b,b<w.heap.size->row≠some b->w'.heap[b]?=w.heap[b]?:=fun b hb V=>X.block b hb fun e=>V e.symm;refine⟨(Y R h.blk.lt V).trans h.blk,h.low,fun i hi=>?_,fun i hi=>FI (h.box i hi) X (N i hi) O,h.apart⟩;obtain⟨L,M,J,I,U⟩:=h.ver i hi;exact⟨L,M,J,Cr I X.size (fun Z a e=>Y _ (U Z a e).1 (hV i hi Z a e)),fun Z a e=>⟨Nat.lt_of_lt_of_le (U Z a e).1 X.size,(U Z a e).2⟩⟩
def Kt.grown{w W X:World}{R:Nat}{row:Option Nat}(h:Kt w W R)(Z:W.grownBy X row)(U:∀g,row=some g->w.heap.size<=g):Kt w X R:=
 ⟨⟨Nat.le_trans h.size Z.size,fun b Y V=>(Z.block b (Nat.lt_of_lt_of_le Y h.size) (fun e=>by have:=U b e.symm;omega)).trans (h.old.2 b Y V)⟩,Z.os.trans h.os,Z.tape.trans h.tape,Z.output.trans h.output⟩
def EJ{P:Program}(w:World){ops:Array Oper}{rest:List Oper}{o:Oper}{a:Act}{Q:Exit->Act->World->Prop}(X:o.guard=none)(s x:Operand)(t:TypeId)(ho:o.op=.call { callee:=.builtin .append,args:=#[s,x],argTypes:=#[t,t] }){base:Nat}{e:TypeId}{z:Value}{size bytes:Nat}(E:Elem P t e z size bytes){v:Value}{n:Nat}{xs:List Value}(hs:a.eval s=v)(hown:w.ownsRow base e size v n xs){ad:Addr}{m c:Nat}{news:List Value}(hx:a.eval x=.slice (some ad) m c)(hl:news.length=m*size)(hc:∀j u,news[j]?=some u-> w.cell? (ad.add j)=some u)(h1:∀u∈news,u.oneCell'=true)(h63:n+m<=maxLen)(hbytes:(n+m)*bytes<=140737488355328)(hbase:base<=w.heap.size)(h:∀Z Y w',w'.ownsRow base e size (.slice Z (n+m) Y) (n+m) (xs++news)->w.grownBy w' v.ownBlock->((Value.slice Z (n+m) Y).ownBlock=v.ownBlock\/(Value.slice Z (n+m) Y).ownBlock=some w.heap.size)->wpList P ops Q rest (a.put o.dst (.slice Z (n+m) Y)) w'):wpList P ops Q (o::rest) a w:=
 wpList_plain X fun _ hK=>Kl w s x t ho E hs hown hx hl hc h1 h63 hbytes hbase fun Z Y w' W V U=>hK _ _ (h Z Y w' W V U)
def Jm(w:World)(cs:List Value)(e:TypeId):∀j u,cs[j]?=some u->(w.alloc (.cells cs.toArray e)).cell? (Addr.add ⟨w.heap.size,0,none⟩ j)=some u:=fun j u Z=>by
 have h:=(Ae.fresh w e cs.toArray).cell j;rw[Addr.add_lit,Nat.zero_add,h]
 simpa using Z
def Hl(Z:Int):∀n,(Bz Z n).length<=n
 |0=>Nat.le_refl _
 |n+1=>by
  have:=Hl Z n
  show(Bz Z n++if(n:Int)=Z then []else [n]).length<=_
  rw[List.length_append]
  split<;>simp<;>omega
def Pm{w:World}{R W:Nat}{s:Bl}(h:Cj w R W s){j g:Nat}(O:j<4)(e:s.own j=some g):¬ ∃Y t,w.heap[g]?=some (.cells Y t (0,0))/\t≠65:=fun⟨Y,t,T,U⟩=>by
 obtain⟨M,N,_⟩:=h.box j O;obtain⟨X,t',Z,V⟩:=Ms.Fb (t':=t) N (fun e=>U e.symm) g e;rw[T]at Z
 injection Z with Z
 injection Z with _ Z _
 exact V Z.symm
structure qz(w7 wx:World)(R b0:Nat)(s':Bl)(gn gm:Nat)(F:Nat->Value)(V:List Bool)(rp:Array Value)(AN:Option Addr)(cn:Nat)(RA:Option Addr)(RC n:Nat)(xs:List Value):Prop where
 node:Ae wx gn 37 (row 74 (Ab F (.slice AN V.length cn)))
 pu:Ae wx gm 70 rp
 run:Cj wx R b0 s'
 old:Kt w7 wx R
 ra:Rd wx wx.heap.size 1 AN V.length (Au V)
 own:wx.ownsRow w7.heap.size 70 14 (.slice RA n RC) n xs
 an:(AN=none->cn=0)/\V.length<=cn
 lo:0<V.length->∀a,AN=some a->a.block<wx.heap.size/\a.block≠R/\∀j,j<4->s'.own j≠some a.block
 nn:gn≠R
 nm:gm≠R
 er:∀a,AN=some a->(Value.slice RA n RC).ownBlock≠some a.block/\R<a.block
def Pj{f:Nat->Value}(R:∀i,i<73->C9 (Ar i) (f i)):(row 14 (EQ f)).all (·.oneCell')=true:=by
 obtain⟨a,b,u0,u1,u2,B,D,E,d,s,C,F,G,A,U,M,N,L,J,I,H,O,T,V,W,X,Y,Z⟩:=Oy R;rw[JO,U,M,N,L,J,I,H,O,T,V,W,X,Y,Z]
 simp[Value.oneCell']
def NQ:Elem prog 44 70 (.agg R8) 14 80:=⟨underlying44,Ap,rfl,Aa⟩
def Oj(c:Du)(x:He)(hs:Gi c)(xA: -1<=x.bad/\x.bad<=3)(uX:∀i,i<12->Wf (x.rd i))(rF:x.ls.length<=400)(z:Nat->Option Addr)(t:Nat->Nat)(y:Option Addr)(LC:Nat)(w:World)(hv:∀i,i<4->(z i=none->t i=0)/\(c.V i).length<=t i/\Rd w w.heap.size 1 (z i) (c.V i).length (Au (c.V i)))(hls:Co w w.heap.size y x.ls):
  Calls prog 5 #[.agg (row 297 (Ak c.fr c.F (AO z c.V t))),.agg (row 14 (BP x.rd x.bad (.slice y x.ls.length LC)))] w fun e w'=>∃J H RA RC,e=.returned (.tuple #[.agg (row 297 (Ak (next c x).fr (next c x).F (AO J (next c x).V H))),.slice RA (Bz x.bad 4).length RC,.int .i64 0])
   /\(∀i,i<4->(J i=none->H i=0)/\((next c x).V i).length<=H i/\Rd w' w'.heap.size 1 (J i) ((next c x).V i).length (Au ((next c x).V i))/\(0<((next c x).V i).length->∀a,J i=some a->w.heap.size<=a.block))/\w'.ownsRow w.heap.size 70 14 (.slice RA (Bz x.bad 4).length RC) (Bz x.bad 4).length (Gy c x 4)/\Below w.heap.size w w':=by
 have HV:=zz hv;have tJ:=zz hls;have HS:=zz hs;have wo:=zz uX;clear hv hls uX;obtain⟨RC,rC⟩:=AJ (row 297 (Ak c.fr c.F (AO z c.V t)));obtain⟨RI,rR⟩:=AJ (row 14 (BP x.rd x.bad (.slice y x.ls.length LC)));rw[rC,rR]
 have B1:=zz (show Ae (((w.alloc (.cells RC 40)).alloc (.cells RI 43)).alloc (.cells zeroCells40 40)) w.heap.size 40 RC from((Ae.fresh _ _ _).alloc _).alloc _)
 have B2:=zz (show Ae (((w.alloc (.cells RC 40)).alloc (.cells RI 43)).alloc (.cells zeroCells40 40)) (w.heap.size+1) 43 RI from(Ae.new Bq).alloc _)
 have B3:=zz (show Ae (((w.alloc (.cells RC 40)).alloc (.cells RI 43)).alloc (.cells zeroCells40 40)) (w.heap.size+1+1) 40 zeroCells40 from Ae.new Bq)
 have HB:=zz (((((Below.refl w.heap.size w).alloc Nr (.cells RC 40)).alloc Bq (.cells RI 43)).alloc Ec (.cells zeroCells40 40)))
 have iC:(prog.info? 40).map (·.size)=some RC.size:=by rw[←rC,Ag];kernel_rfl
 go_in
 go_upto_region 1 with fail
 generalize(((w.alloc (.cells RC 40)).alloc (.cells RI 43)).alloc (.cells zeroCells40 40))=w1 at*
 obtain⟨B,uq⟩:=AJ (w.heap.size);have qV:=zz uq;rw[uq]at B1 B2 B3 HB ⊢;clear uq;have xh:=HB.o.size;have rW:=B2.o.cell 12;have uG:=B2.o.cell 13;have y0:=B1.o.cell 0;rw[←rR,Ah Aa]at rW uG;rw[←rC,Ah Aa]at y0
 rw[show BP x.rd x.bad (.slice y x.ls.length LC) 12=.int .i64 x.bad from rfl]at rW
 rw[show BP x.rd x.bad (.slice y x.ls.length LC) 13=.slice y x.ls.length LC from rfl]at uG
 rw[show Ak c.fr c.F (AO z c.V t) 0=.int .i64 c.fr from rfl]at y0
 have b1:decide (x.bad< -1)=false:=decide_eq_false Aa;have b2:decide (4<=x.bad)=false:=decide_eq_false Aa;have b3:decide (c.fr<0)=false:=decide_eq_false (by have:=hs.fr;omega);have b4:decide (1073741824<=c.fr)=false:=decide_eq_false (by have:=hs.fr;omega);have b5:decide ((400:Int)<(x.ls.length:Int))=false:=decide_eq_false Aa
 go_upto_region 5 with fail
 have ru:=zz (show Ae w1 B 40 (row 297 (Ak c.fr c.F (AO z c.V t)))from by rw[rC];exact B1.o)
 have uW:=zz rR
 have iI:(prog.info? 43).map (·.size)=some RI.size:=by rw[←rR,Ag];kernel_rfl
 go_upto_region 6 with(refine Cb rfl 38 _ rfl B 1 296 rfl ru.o Aa _ underlying38 rfl Ap ?_)
 have tZ:=zz (fun(k:Nat) (hk:k<4) (w:World)=>KI (fun j=>Ak c.fr c.F (AO z c.V t) (1+j)) k hk w);obtain⟨R4,vD⟩:=AJ (row 296 fun j=>Ak c.fr c.F (AO z c.V t) (1+j));rw[vD]at tZ ⊢;clear vD b1 b2 b3 b4 b5 rW uG
 go_loopw[43] (fun i wr=>∃k:Nat,k<=4/\i=.int .i64 k/\Below w1.heap.size w1 wr) (fun i _=>4-(intOf i).toNat)
 .exact⟨0,Aa,rfl,Below.refl _ _⟩
 obtain⟨k,hk,rfl,hb⟩:=hrel;have rD:=zz hb;clear hb
 by_cases O:k<4
 .have wW:(k:Int)<4:=Aa;have uh:=tZ.o k O;rw[Tq c.fr c.F (AO z c.V t) k O]at uh;have iN:(prog.info? 37).map (·.size)=some (row 74 (Ab (c.F k) (AO z c.V t k))).size:=Eg;have zN:(zeroCells37).size=(row 74 (Ab (c.F k) (AO z c.V t k))).size:=Eg;have oN:=Cv (HS.o.ok k O) (A:=z k) (n:=(c.V k).length) (c:=t k)
  have cN:(row 74 (Ab (c.F k) (AO z c.V t k)))[0]?=some (.int .i64 (k:Int)):=by rw[Ah Aa];unfold Ab;rw[Aj Aa,HS.o.id k O]
  rw[show(.slice (z k) (c.V k).length (t k):Value)=AO z c.V t k from rfl]at oN
  obtain⟨RN,qR⟩:=AJ (row 74 (Ab (c.F k) (AO z c.V t k)));rw[qR]at uh iN zN oN cN;clear qR;have F1:Hid (Ae (wr.alloc (.cells zeroCells37 37)) wr.heap.size 37 zeroCells37):=zz (Ae.fresh _ _ _)
  go_upto_region 8 with(refine wpList_store_row rfl 37 _ _ rfl wr.heap.size RN rfl rfl 37 _ F1.o iN zN oN ?_)
  have uY:=below_setRow ((Below.refl wr.heap.size wr).alloc Nr (.cells zeroCells37 37)) Nr RN;have wC:=CU rD uY;have yn:=(F1.o.setRow RN).cell 0;rw[cN]at yn;have xG:((k:Int)!=(k:Int))=false:=Bq;clear F1 uY uh iN zN oN cN
  generalize((wr.alloc (.cells zeroCells37 37)).setRow wr.heap.size RN)=wn at*
  go_wp2_with fail;exact⟨⟨k+1,Aa,BG,wC.o⟩,Ck⟩
 obtain rfl:k=4:=Aa;clear O tZ;have B1:=zz (B1.o.below rD.o B1.o.lt);have ru:=zz (ru.o.below rD.o ru.o.lt);have B2:=zz (B2.o.below rD.o B2.o.lt);have B3:=zz (B3.o.below rD.o B3.o.lt);have HB:=zz (Bh HB.o (Nat.le_of_eq qV.o.symm) rD.o);clear rD y0
 generalize wr=wq at*
 have G:=fun w=>RD (Ak c.fr c.F (AO z c.V t)) (BP x.rd x.bad (.slice y x.ls.length LC)) w;rw[kP]at G;rw[rC,rR]at G;obtain⟨s0,uE⟩:=AJ (G8 c x z t y LC);have qQ:=zz uE;rw[uE]at G;obtain⟨RR,tQ⟩:=AJ (row 315 s0.cell);rw[tQ]at G;have vO:=zz tQ;have tO:=zz rC;clear uE tQ rC rR
 go_upto_region 11 with fail
 refine wp_region_list ?_;refine Ad Bb 40 _ rfl B rfl B1.o _ underlying40 rfl iC ?_;(try simp only[Rg.lp]);refine Ad Bb 43 _ rfl (B+1) rfl B2.o _ underlying43 rfl iI ?_;(try simp only[Rg.lp]);refine Dj rfl 61 _ rfl (.agg RR) (by simp only[List.map_toArray,List.map_cons,List.map_nil];exact G _) ?_;(try simp only[Rg.lp]);refine Af Bb (fun K hK=>?_);go_simp;refine hK _ _ ?_;(try simp only[Rg.lp]);refine Af Bb (fun K hK=>?_);go_simp;refine hK _ _ ?_;(try simp only[Rg.lp]);clear G iI;have rX:Below wq.heap.size wq (wq.alloc (.cells RR 61)):=DC
 have BR:=zz (show Ae (wq.alloc (.cells RR 61)) wq.heap.size 61 RR from Ae.fresh _ _ _)
 have U:=zz (show B+1+1<wq.heap.size from B3.o.lt)
 have B1:=AU B1 rX;have ru:=AU ru rX;have B2:=AU B2 rX;have B3:=AU B3 rX;have HB:=zz (Bh HB.o (Nat.le_of_eq qV.o.symm) rX)
 have su:=zz (show wq.heap.size<(wq.alloc (.cells RR 61)).heap.size by simp)
 clear rX
 generalize(wq.alloc (.cells RR 61))=w2 at*
 obtain⟨N,uM⟩:=AJ (wq.heap.size);rw[uM]at BR U su ⊢;clear uM
 have rV:=zz (show ∀i,i<4->(z i=none->t i=0)/\(c.V i).length<=t i/\Rd w2 w2.heap.size 1 (z i) (c.V i).length (Au (c.V i))/\(0<(c.V i).length->∀a,z i=some a->a.block<B)from fun i hi=>by
  obtain⟨E,h2,h3⟩:=HV.o i hi
  have sU:Below w.heap.size w w2:=by rw[qV.o];exact HB.o
  exact⟨E,h2,(h3.below sU).more sU.size,fun m a e=>by have:=FV h3 m e;rw[qV.o]at this;exact this⟩)
 have tJ:=zz (show Co w2 B y x.ls from by
  have sU:Below w.heap.size w w2:=by rw[qV.o];exact HB.o
  have:=tJ.o.below sU;rw[qV.o]at this
  exact this)
 have uy:=zz (show Cj w2 N B s0 from by
  have uV:=BR.o;rw[←vO.o]at uV;refine⟨uV,by have:=U.o;omega,fun i hi=>?_,fun i hi=>?_,fun i j hi L xB=>?_⟩
  .rw[←qQ.o];obtain⟨E,h2,h3,h4⟩:=rV.o i hi;exact⟨E,h2,HS.o.v i hi,h3,fun m a e=>⟨by have:=h4 m a e;have:=U.o;have:=su.o;omega,by have:=h4 m a e;have:=U.o;omega,fun j L e2=>by cases e2⟩⟩
  . rw[←qQ.o];exact Ms.Cy.nil _ _
  rw[←qQ.o];exact .inl rfl)
 clear BR vO;clear xh hs;go_wp2_with fail
 go_loopw[57] (fun i wr=>∃k J H,k<=4/\i=.int .i64 ((k:Nat):Int)/\Cj wr N B (G8 c x J H y LC)/\Keep w2 wr N s0 (G8 c x J H y LC)/\∀j,j<k->∀a,J j=some a->N<a.block) (fun i _=>4-(intOf i).toNat)
 .exact⟨0,z,t,Aa,rfl,by rw[qQ.o];exact uy.o,by rw[qQ.o];exact Keep.refl _ _ _,fun j L=>by omega⟩
 obtain⟨k,J,H,hk,rfl,qY,uD,uO⟩:=hrel;have Z:=zz qY;have Y:=zz uD;have ve:=zz uO;clear uO;have sK:=zz (uD.kept B1.o (by have:=U.o;omega) (fun j L e=>by rw[←qQ.o]at e;cases e));clear qY uD
 by_cases O:k<4
 .have xH:(0:Int)<=(k:Int):=Aa;have wW:(k:Int)<4:=Aa
  go_upto_region 15 with fail
  have hb:Below wr.heap.size wr wr.drew:=(Below.refl _ _).drew;have Z:=zz (Z.o.below hb);have Y:=zz (Y.o.trans (Keep.of_below (R:=N) (s:=G8 c x J H y LC) hb))
  have wI:=zz (show Rd wr.drew wr.drew.heap.size 1 (z k) (c.V k).length (Au (c.V k))from Cr (rV.o k O).2.2.1 Y.o.size (fun m a e=>by
   have h4:=(rV.o k O).2.2.2 m a e;have:=U.o;have:=su.o
   exact Y.o.block a.block Aa Aa (fun j L e=>by rw[←qQ.o]at e;cases e)))
  have uU:=zz (rV.o k O).1;have uw:=zz (HS.o.v k O);have wG:=zz (rV.o k O).2.1;have yv:=(sK.o.below hb sK.o.lt).cell (1+k*74+71+2)
  rw[←tO.o,Ah Aa,show Ak c.fr c.F (AO z c.V t) (1+k*74+71+2)=.slice (z k) (c.V k).length (t k)from by
   unfold Ak
   rw[Aj Aa,show(1+k*74+71+2-1)/74=k by omega,show(1+k*74+71+2-1)%74=73 by omega]
   rfl]at yv
  clear hb;refine wp_region_noPanic ?_;refine A8 [7] (fun w'=> w'.cell? ⟨B,1+k*74+71+2,none⟩=some (.slice (z k) (c.V k).length (t k))) Ap ?_;have I:=yv;clear yv
  generalize wr.drew=wv at*
  refine Ac 0 ?_;refine Ac 1 ?_;refine Ac 2 ?_;refine Ac 3 ?_;refine Ac 4 ?_;refine Ac 5 ?_;refine Ac 6 ?_;refine Bc 7 I ?_;refine Ac 9 ?_;refine Ac 10 ?_;refine Ac 11 ?_;refine Aw 8 ?_;refine AX ?_ ?_
  . kernel_rfl
  intro K hK;rw[Ao Bb];clear I;have vG:=zz Z.o.blk.lt;refine Ea _ (.const (.slice none 0 0)) (.tmp 67) 33 rfl (base:=wv.heap.size) H9 rfl (World.ownsRow_nil _ _ _ _) rfl (fun h=>⟨by have:=uU.o h;have:=wG.o;omega,uU.o h⟩) wI.o (MX _) (by have:=uw.o;unfold maxLen;omega) (by have:=uw.o;omega) Nr ?_;intro A2 c2 w4 wO qZ hg;simp only[List.nil_append,Nat.zero_add]at qZ ⊢;have hb:Below wv.heap.size wv w4:=(Below.refl _ _).grown hg Nr (by intro g e;cases e);have Z:=zz (Z.o.below hb);have Y:=zz (Y.o.trans (Keep.of_below (R:=N) (s:=G8 c x J H y LC) hb));have sP:=zz qZ;have uj:=zz (fun g e=>(qZ.lt g e));obtain⟨vz,uN⟩:=BU qZ;have f4:=Z.o.blk.thaw (1+k*74+71+2);have v4:=Z.o.blk.cell (1+k*74+71+2);rw[Ah Aa]at v4;have vQ:=zz (And.intro vz uN);clear hb qZ hg wO vz uN;refine hK.o _ _ ?_;refine Ac 12 ?_;refine Ac 13 ?_;refine Ac 14 ?_;refine Aw 15 ?_;refine AX ?_ ?_
  . kernel_rfl
  intro K hK;go_simp;refine hK.o _ _ ?_;(try simp only[Rg.lp]);refine Bg Ap ?_ _;refine NoPanic.normal ?_;have d:=Cj.om Z.o O A2 c2 ⟨vQ.o.1,vQ.o.2,uw.o,Rd.Bu sP.o,fun m a e=>⟨FV (Rd.Bu sP.o) m e,by have:=Db sP.o a e;have:=vG.o;omega,fun j L e2=>by cases e2⟩⟩
  have sQ:=zz (show ∀j,j<k+1->∀a,setAt J k A2 j=some a->N<a.block from fun j L a e=>by
   by_cases ej:j=k
   . subst ej;rw[AY]at e;have:=Db sP.o a e;have:=vG.o;omega
   rw[Bj _ _ ej]at e;exact ve.o j Aa a e)
  rw[show(G8 c x J H y LC).setNode k ((G8 c x J H y LC).F k) A2 ((G8 c x J H y LC).VL k) c2=G8 c x (setAt J k A2) (setAt H k c2) y LC from ZP c x J H y LC k A2 c2]at d
  have r9:=zz (show Cj (w4.setCell ⟨N,1+k*74+71+2,none⟩ (.slice A2 (c.V k).length c2)) N B (G8 c x (setAt J k A2) (setAt H k c2) y LC)/\Keep w4 (w4.setCell ⟨N,1+k*74+71+2,none⟩ (.slice A2 (c.V k).length c2)) N (G8 c x J H y LC) (G8 c x (setAt J k A2) (setAt H k c2) y LC)from d)
  clear d f4 v4
  generalize(w4.setCell ⟨N,1+k*74+71+2,none⟩ (.slice A2 (c.V k).length c2))=w5 at*
  go_wp2_with fail;exact⟨⟨k+1,setAt J k A2,setAt H k c2,Aa,BG,r9.o.1,Y.o.trans r9.o.2,sQ.o⟩,Ck⟩
 obtain rfl:k=4:=Aa;clear O
 have vM:=zz (show NZ wr wr N B x y c.F c.V (fun _=>[]) (G8 c x J H y LC)from⟨Z.o,rfl,rfl,rfl,rfl,rfl,rfl,⟨Nat.le_refl _,fun _ _ _=>rfl⟩,rfl,rfl,rfl,ve.o⟩)
 have rP:=zz (show Co wr B y x.ls from tJ.o.keep fun b o hb=>IW (Y.o.block b (by have:=U.o;have:=su.o;omega) (by have:=U.o;omega) (fun j L e=>by rw[←qQ.o]at e;cases e)) o)
 have uH:=zz (Y.o.kept B2.o (by have:=U.o;omega) (fun j L e=>by rw[←qQ.o]at e;cases e));have vw:=zz (Y.o.kept B3.o (by have:=U.o;omega) (fun j L e=>by rw[←qQ.o]at e;cases e))
 have rG:=zz (show Below B w wr from HB.o.trans (Y.o.below uy.o))
 have vF:=zz (show wr.cell? ⟨B,0,none⟩=some (.int .i64 c.fr)from by
  have:=sK.o.cell 0;rw[←tO.o,Ah Aa]at this
  exact this)
 have vC:=zz (show ∀k,k<4->wr.rangeAt (B+1) (k*3) ((List.range 3).map fun j=>.int .i64 (x.rd (k*3+j)))from fun k hk=>by
  have E:=uH.o;rw[←uW.o]at E;have h2:=Dx E (k*3) 3 Aa
  rw[List.map_congr_left (g:=fun j=>.int .i64 (x.rd (k*3+j))) (fun j L=>by
   have:=List.mem_range.1 L
   unfold BP
   rw[Ao Aa])]at h2
  exact h2)
 have rH:=zz (show N<wr.heap.size from Z.o.blk.lt)
 clear rV tJ uy B1 B2 B3 ru HB su Y Z qQ iC;have wE:∀(fn:Fn) (first vE:Array Value) (w:World),(Instr.makeFunc fn first vE).run prog w=.ok (.func fn first vE) w:=fun _ _ _ _=>rfl;go_wp2_with fail;refine(qD HS.o vM.o rP.o (by have:=U.o;have:=rH.o;omega) (by have:=U.o;omega) rF vF.o vC.o).mono ?_;rintro e w3 ⟨rfl,s1,E⟩;have rq:=zz (QD HS.o wo.o);have uF:=zz (all1 (x:=x) HS.o);have r:=zz E;clear E vM wE;go_wp2_with fail;refine(qF HS.o rq.o uF.o r.o rP.o (by have:=U.o;have:=rH.o;omega) (by have:=U.o;omega) rF).mono ?_;rintro e w4 ⟨rfl,s2,E⟩;have tT:=zz (Si rq.o);have um:=zz (all2 uF.o);have r:=zz E;clear E rq uF;go_wp2_with fail;refine(qM HS.o tT.o um.o r.o rP.o (by have:=U.o;have:=rH.o;omega) (by have:=U.o;omega) rF).mono ?_;rintro e w5 ⟨rfl,s3,E⟩;have ul:=zz (Vk tT.o);have uf:=zz (lF um.o);have r:=zz E;clear E tT um;go_wp2_with fail;refine(qK HS.o ul.o uf.o r.o rP.o (by have:=U.o;have:=rH.o;omega) (by have:=U.o;omega) rF).mono ?_;rintro e w6 ⟨rfl,s4,E⟩;have rO:=zz (Y6 ul.o);have ug:=zz (oG uf.o);have r:=zz E;clear E ul uf;go_wp2_with fail;refine(qI HS.o rO.o ug.o r.o rP.o (by have:=U.o;have:=rH.o;omega) (by have:=U.o;omega) rF).mono ?_;rintro e w7 ⟨rfl,s5,E⟩;have wF:=zz (jM rO.o);have vK:=zz (pY ug.o);have r:=zz E
 clear E rO ug;clear vF vC rP
 have xq:=zz (show ∀i,i<4->(W5 c x i).length<=140737488351232 from fun i hi=>by
  have:=(r.o.run.ver i hi).2.2.1;rw[r.o.hV]at this
  exact this)
 have sI:=zz (WV vK.o)
 have rJ:=zz (show N<w7.heap.size from r.o.run.blk.lt)
 have wQ:=zz (Ma r.o.old sK.o (by have:=U.o;omega));have wL:=zz (Ma r.o.old uH.o (by have:=U.o;omega));have wP:=zz (Ma r.o.old vw.o (by have:=U.o;omega))
 have sD:=zz (show Below B w w7 from⟨r.o.os.trans rG.o.os,r.o.tape.trans rG.o.tape,r.o.output.trans rG.o.output,Nat.le_trans rG.o.size r.o.old.1,fun b hb=>(r.o.old.2 b (by have:=U.o;have:=rH.o;omega) (by have:=U.o;omega)).trans (rG.o.block b hb)⟩)
 clear sK uH vw rG;go_wp2_with fail
 go_loopw[87,11] (fun v u wr=>∃(i:Nat) (X:Bl) (RA:Option Addr) (l:Nat),i<=4/\v=.int .i64 (i:Int)/\u=.slice RA (Bz x.bad i).length l/\Cj wr N B X/\X.F=Dv x.bad (G6 c x) (F5 c x) i/\X.VL=W5 c x/\X.bX=X5 c x/\Kt w7 wr N/\wr.ownsRow w7.heap.size 70 14 (.slice RA (Bz x.bad i).length l) (Bz x.bad i).length (Gy c x i)/\∀j,j<4->0<(X.VL j).length->∀a,X.VA j=some a->(Value.slice RA (Bz x.bad i).length l).ownBlock≠some a.block/\N<a.block) (fun v _ _=>4-(intOf v).toNat)
 .exact⟨0,s5,none,0,Aa,rfl,rfl,r.o.run,by rw[r.o.hF,IY],r.o.hV,r.o.hX,Kt.refl _ _,World.ownsRow_nil _ _ _ _,fun j L m a e=>⟨(fun e2=>by cases e2),r.o.va j L a e⟩⟩
 obtain⟨i,X,RA,l,hi,rfl,rfl,qY,u7,vk,vI,vU,vg,vH⟩:=hrel;have Z:=zz qY;have tH:=zz u7;have qX:=zz vk;have uo:=zz vI;have Y:=zz vU;have T:=zz vg;have sN:=zz vH;clear qY u7 vk vI vU vg vH
 by_cases O:i<4
 .have xC:(0:Int)<=(i:Int):=Aa;have xD:(i:Int)<4:=Aa;have wK:=zz (Ma Y.o.old wL.o (by have:=U.o;omega));have rW:=wK.o.cell 12
  rw[←uW.o,Ah Aa,show BP x.rd x.bad (.slice y x.ls.length LC) 12=.int .i64 x.bad from rfl]at rW
  by_cases qU:(i:Int)=x.bad
  .have vT:((i:Int)==x.bad)=true:=by simp[qU]
   have rq:=zz (Cl.Dw x.bad (G6 c x) (F5 c x) i qU)
   have rT:=zz (show Bz x.bad (i+1)=Bz x.bad i from by show Bz x.bad i++(if(i:Int)=x.bad then []else [i])=_;rw[Ao qU,List.append_nil])
   clear qU;go_wp2_with fail;exact⟨⟨i+1,X,RA,l,Aa,BG,by rw[rT.o],Z.o,tH.o.trans rq.o.symm,qX.o,uo.o,Y.o,by unfold Gy;rw[rT.o];exact T.o,by rw[rT.o];exact sN.o⟩,Ck⟩
  have vT:((i:Int)==x.bad)=false:=by simp[qU]
  have rq:=zz (Cl.DV x.bad (G6 c x) (F5 c x) i qU)
  have rT:=zz (show Bz x.bad (i+1)=Bz x.bad i++[i]from by show Bz x.bad i++(if(i:Int)=x.bad then []else [i])=_;rw[Aj qU])
  have wM:=zz qU;clear qU
  go_upto_region 27 with fail
  go_cut[13,14] (fun p q wx=>∃gn gm f cn,p=.pointer (some ⟨gn,0,none⟩)/\q=.pointer (some ⟨gm,0,none⟩)/\qz w7 wx N B X gn gm (G6 c x i) (W5 c x i) (row 14 (EQ (G6 c x i))) f cn RA l (Bz x.bad i).length (Gy c x i))
  case first=>
   have vP:=zz (show X.VL i=W5 c x i from by rw[qX.o])
   have vL:=zz (show X.bX i=X5 c x i from by rw[uo.o])
   have YB:=zz (show ∀W,Cj W N B X-> W.cell? ⟨N,311+i,none⟩=some (X.EU i)from fun W hr=>by
    have E:=hr.blk.cell (311+i);rw[Ah Aa,X.K7 O]at E
    exact E)
   have YN:=zz (show ∀W,Cj W N B X->W.rangeAt N (1+i*74) ((List.range 74).map (Ab (F5 c x i) (.slice (X.VA i) (W5 c x i).length (X.VC i))))from fun W hr=>by
    rw[show 1+i*74=1+74*i by omega]
    have E:=Dx hr.blk (1+74*i) 74 Aa
    rw[List.map_congr_left (g:=Ab (F5 c x i) (.slice (X.VA i) (W5 c x i).length (X.VC i))) (fun j L=>by
     have wU:=List.mem_range.1 L;rw[X.TN O wU,tH.o,Er]
     unfold Bl.Rp
     rw[vP.o])]at E
    exact E)
   have hb:Below wr.heap.size wr wr.drew:=(Below.refl _ _).drew;have Z:=zz (Z.o.below hb);have Y:=zz (Y.o.below hb);have T:=GJ T hb;clear hb rW vT;refine wp_region_noPanic ?_
   have I:=(show wr.drew.cell? ⟨N,311+i,none⟩=some (X.EU i)/\wr.drew.rangeAt N (1+i*74) ((List.range 74).map (Ab (F5 c x i) (.slice (X.VA i) (W5 c x i).length (X.VC i))))from⟨YB.o wr.drew Z.o,YN.o wr.drew Z.o⟩)
   refine A8 [6,12] (fun w'=> w'.cell? ⟨N,311+i,none⟩=some (X.EU i)/\w'.rangeAt N (1+i*74) ((List.range 74).map (Ab (F5 c x i) (.slice (X.VA i) (W5 c x i).length (X.VC i))))) Ap ?_
   generalize wr.drew=wv at*
   repeat' (first
    |(refine KO 6 (.agg (row 74 (Ab (F5 c x i) (.slice (X.VA i) (W5 c x i).length (X.VC i))))) I (hy:=?_) (h:=?_);· (intro w' tV;exact BK 37 _ rfl N (1+i*74) 74 rfl _ _ tV.2 underlying37 rfl Ap))
    |(refine fK 12 I ?_)
    |(refine BJ 0 ?_)|(refine BJ 1 ?_)|(refine BJ 2 ?_)|(refine BJ 3 ?_)|(refine BJ 4 ?_)|(refine BJ 5 ?_)|(refine BJ 7 ?_)|(refine BJ 8 ?_)|(refine BJ 9 ?_)|(refine BJ 10 ?_)|(refine BJ 11 ?_)|(refine BJ 14 ?_)|(refine BJ 15 ?_)|(refine BJ 16 ?_)
    |(refine DR 13 ?_)
    |(refine EG 13 17 ?_ ?_)
    |(refine Uf 13 17 18 ?_ ?_ ?_)
    |(refine EG 13 18 ?_ ?_)
    |(refine DR 17 ?_)
    |(refine EG 17 18 ?_ ?_)
    |(refine DR 18 ?_)
    |(refine DR 19 ?_)
    |(refine DR 20 ?_)
    |(refine Bt ?_;intro K hK;rw[Ao Bb];(first
     |(clear I;refine wp_store_row 37 _ _ rfl gn RN rfl rfl 37 _ BN.o iN zN oN ?_;have M:=CK wv gn RN;have Z:=zz (Z.o.aside BN.o M sS.o.1 sS.o.2 El sQ.o);have Y:=zz (Y.o.aside M vV.o);have T:=zz (T.o.kept M (.inr vN.o));have C:=zz (Cr C.o M.size fun D a e=>setRow_other wv gn a.block RN (tY.o D a e));have BM:=zz (BM.o.setRow_other (g':=gn) (fun e=>sH.o e.symm) RN);have BN:=zz (BN.o.setRow RN);clear M;generalize(wv.setRow gn RN)=wv at*;have I:=(show wv.cell? ⟨N,311+i,none⟩=some (X.EU i)/\wv.rangeAt N (1+i*74) ((List.range 74).map (Ab (F5 c x i) (.slice (X.VA i) (W5 c x i).length (X.VC i))))from⟨YB.o wv Z.o,YN.o wv Z.o⟩))
     |(clear I;refine wp_store_row 70 _ _ rfl gm rU rfl rfl 70 _ BM.o iP zP oP ?_;have M:=CK wv gm rU;have Z:=zz (Z.o.aside BM.o M tC.o.1 tC.o.2 El vo.o);have Y:=zz (Y.o.aside M vS.o);have T:=zz (T.o.kept M (.inr uZ.o));have C:=zz (Cr C.o M.size fun D a e=>setRow_other wv gm a.block rU (tX.o D a e));have BN:=zz (BN.o.setRow_other (g':=gm) sH.o rU);have BM:=zz (BM.o.setRow rU);clear M;generalize(wv.setRow gm rU)=wv at*;have I:=(show wv.cell? ⟨N,311+i,none⟩=some (X.EU i)/\wv.rangeAt N (1+i*74) ((List.range 74).map (Ab (F5 c x i) (.slice (X.VA i) (W5 c x i).length (X.VC i))))from⟨YB.o wv Z.o,YN.o wv Z.o⟩))
     |(refine Rg.Gv 37 zeroCells37 rfl Ap ?_;clear I;have hb:Below wv.heap.size wv (wv.alloc (.cells zeroCells37 37)):=DC;have u6:=zz (show Ae (wv.alloc (.cells zeroCells37 37)) wv.heap.size 37 zeroCells37 from Ae.fresh _ _ _);have sQ:=zz (show ∀j,j<4->0<(X.VL j).length->∀a,X.VA j=some a->a.block≠wv.heap.size from fun j L D a e=>Nat.ne_of_lt ((Z.o.ver j L).2.2.2.2 D a e).1);have sS:=zz (show wv.heap.size≠N/\∀j,j<4->X.own j≠some wv.heap.size from⟨Nat.ne_of_gt Z.o.blk.lt,fun j L e=>Nat.lt_irrefl _ (Z.o.Ju L e).2⟩);have vV:=zz (show w7.heap.size<=wv.heap.size from Y.o.size);have vN:=zz (show(Value.slice RA (Bz x.bad i).length l).ownBlock≠some wv.heap.size from fun e=>Nat.lt_irrefl _ (T.o.lt _ e).2);(try(have sH:=zz (show wv.heap.size≠gm from Nat.ne_of_gt BM.o.lt)));(try(have tY:=zz (show 0<(W5 c x i).length->∀a,f=some a->a.block≠wv.heap.size from fun D a e=>Nat.ne_of_lt (FV C.o D e))));have Z:=zz (Z.o.below hb);have Y:=zz (Y.o.below hb);have T:=GJ T hb;(try(have BN:=AU BN hb));(try(have BM:=AU BM hb));(try(have C:=Iz C hb));have BN:=u6;clear hb u6;obtain⟨gn,sW⟩:∃g,wv.heap.size=g:=⟨_,rfl⟩;rw[sW]at BN sQ sS vV vN ⊢;(try rw[sW]at sH);(try rw[sW]at tY);clear sW;generalize(wv.alloc (.cells zeroCells37 37))=wv at*;have I:=(show wv.cell? ⟨N,311+i,none⟩=some (X.EU i)/\wv.rangeAt N (1+i*74) ((List.range 74).map (Ab (F5 c x i) (.slice (X.VA i) (W5 c x i).length (X.VC i))))from⟨YB.o wv Z.o,YN.o wv Z.o⟩))
     |(refine Rg.Gv 70 R8 rfl Ap ?_;clear I;have hb:Below wv.heap.size wv (wv.alloc (.cells R8 70)):=DC;have vR:=zz (show Ae (wv.alloc (.cells R8 70)) wv.heap.size 70 R8 from Ae.fresh _ _ _);have vo:=zz (show ∀j,j<4->0<(X.VL j).length->∀a,X.VA j=some a->a.block≠wv.heap.size from fun j L D a e=>Nat.ne_of_lt ((Z.o.ver j L).2.2.2.2 D a e).1);have tC:=zz (show wv.heap.size≠N/\∀j,j<4->X.own j≠some wv.heap.size from⟨Nat.ne_of_gt Z.o.blk.lt,fun j L e=>Nat.lt_irrefl _ (Z.o.Ju L e).2⟩);have vS:=zz (show w7.heap.size<=wv.heap.size from Y.o.size);have uZ:=zz (show(Value.slice RA (Bz x.bad i).length l).ownBlock≠some wv.heap.size from fun e=>Nat.lt_irrefl _ (T.o.lt _ e).2);(try(have sH:=zz (show gn≠wv.heap.size from Nat.ne_of_lt BN.o.lt)));(try(have tX:=zz (show 0<(W5 c x i).length->∀a,f=some a->a.block≠wv.heap.size from fun D a e=>Nat.ne_of_lt (FV C.o D e))));have Z:=zz (Z.o.below hb);have Y:=zz (Y.o.below hb);have T:=GJ T hb;(try(have BN:=AU BN hb));(try(have BM:=AU BM hb));(try(have C:=Iz C hb));have BM:=vR;clear hb vR;obtain⟨gm,tF⟩:∃g,wv.heap.size=g:=⟨_,rfl⟩;rw[tF]at BM vo tC vS uZ ⊢;(try rw[tF]at sH);(try rw[tF]at tX);clear tF;generalize(wv.alloc (.cells R8 70))=wv at*;have I:=(show wv.cell? ⟨N,311+i,none⟩=some (X.EU i)/\wv.rangeAt N (1+i*74) ((List.range 74).map (Ab (F5 c x i) (.slice (X.VA i) (W5 c x i).length (X.VC i))))from⟨YB.o wv Z.o,YN.o wv Z.o⟩))
     |(go_simp;clear I;have hv:=Z.o.ver i O;rw[vP.o]at hv;have uK:=(Z.o.box i O).at.1;rw[vL.o]at uK;obtain⟨q1,q2,q3,q4⟩:=wF.o i O wM.o;rw[show X.EU i=.slice (X.bA i) (X5 c x i).length (X.bC i)from by unfold Bl.EU;rw[vL.o]];refine(aC (F5 c x i) q3 i O q1 c.fr q2 (X.VA i) (X.VC i) (W5 c x i) (X.bA i) (X.bC i) (X5 c x i) wv.heap.size wv Nr hv.1 hv.2.1 hv.2.2.1 hv.2.2.2.1 (Fa _ _ _ _ _ _ _ rF i) uK).mono ?_;rintro e w4 ⟨f,cn,rfl,qY,hb,rA,uT,uL⟩;rw[show Dy (fun j:Nat=>Be (i:Int) c.fr 5 24 (j:Int) (X5 c x i)) (F5 c x i)=G6 c x i from rfl];(have iN:(prog.info? 37).map (·.size)=some (row 74 (Ab (G6 c x i) (.slice f (W5 c x i).length cn))).size:=by rw[Ag];kernel_rfl);(have zN:(zeroCells37).size=(row 74 (Ab (G6 c x i) (.slice f (W5 c x i).length cn))).size:=by rw[Ag];kernel_rfl);have oN:=Cv (sI.o i O) (A:=f) (n:=(W5 c x i).length) (c:=cn);obtain⟨RN,qR⟩:∃R,(row 74 (Ab (G6 c x i) (.slice f (W5 c x i).length cn)))=R:=⟨_,rfl⟩;rw[qR]at iN zN oN ⊢;have sG:=zz qR;clear qR;(have iP:(prog.info? 70).map (·.size)=some (row 14 (EQ (G6 c x i))).size:=by rw[Ag];kernel_rfl);(have zP:(R8:Array Value).size=(row 14 (EQ (G6 c x i))).size:=by rw[Ag];rfl);have oP:=Pj (sI.o i O);obtain⟨rU,sJ⟩:∃R,row 14 (EQ (G6 c x i))=R:=⟨_,rfl⟩;rw[sJ]at iP zP oP ⊢;have vB:=zz sJ;clear sJ;have xg:=zz (And.intro uT uL);have wB:=zz (show ∀a,f=some a->(Value.slice RA (Bz x.bad i).length l).ownBlock≠some a.block/\N<a.block from fun a e=>⟨fun e2=>by have:=rA a e;have:=(T.o.lt _ e2).2;omega,by have:=rA a e;have:=Z.o.blk.lt;omega⟩);have vY:=zz (show ∀a,f=some a->a.block≠N/\∀j,j<4->X.own j≠some a.block from fun a e=>⟨fun e2=>by have:=rA a e;have:=Z.o.blk.lt;omega,fun j L e2=>by have:=rA a e;have:=(Z.o.Ju L e2).2;omega⟩);(try(have tY:=zz (show 0<(W5 c x i).length->∀a,f=some a->a.block≠gn from fun _ a e e2=>by have:=rA a e;have:=BN.o.lt;omega)));(try(have tX:=zz (show 0<(W5 c x i).length->∀a,f=some a->a.block≠gm from fun _ a e e2=>by have:=rA a e;have:=BM.o.lt;omega)));have C:=zz qY;have Z:=zz (Z.o.below hb);have Y:=zz (Y.o.below hb);have T:=GJ T hb;(try(have BN:=AU BN hb));(try(have BM:=AU BM hb));clear hb hv uK qY rA uT uL q1 q2 q3 q4;generalize wv=wq at*;generalize w4=wv at*;have I:=(show wv.cell? ⟨N,311+i,none⟩=some (X.EU i)/\wv.rangeAt N (1+i*74) ((List.range 74).map (Ab (F5 c x i) (.slice (X.VA i) (W5 c x i).length (X.VC i))))from⟨YB.o wv Z.o,YN.o wv Z.o⟩)));refine hK.o _ _ I ?_;(try simp only[Rg.lp]))
    |(refine Bg Ap ?_ _;refine NoPanic.normal ?_;clear I;go_wp2_with fail;go_meet;exact⟨gn,gm,f,cn,rfl,rfl,⟨by rw[sG.o];exact BN.o,by rw[vB.o];exact BM.o,Z.o,Y.o,C.o,T.o,xg.o,fun D a e=>⟨FV C.o D e,vY.o a e⟩,sS.o.1,tC.o.1,wB.o⟩⟩))
  obtain⟨gn,gm,f,cn,rfl,rfl,hp⟩:=hcut;have HP:=zz hp;have BN:=zz hp.node;have iN:(prog.info? 37).map (·.size)=some (row 74 (Ab (G6 c x i) (.slice f (W5 c x i).length cn))).size:=Eg;obtain⟨RN,qR⟩:=AJ (row 74 (Ab (G6 c x i) (.slice f (W5 c x i).length cn)));rw[qR]at BN iN;have wD:=iN;have sG:=zz qR;clear qR hp
  go_upto_region 28 with fail
  have qW:Below wc.heap.size wc wc.drew:=(Below.refl _ _).drew;have Z:=zz (HP.o.run.below qW);have Y:=zz (HP.o.old.below qW);have BN:=AU BN qW;have I:Ae wc.drew gn 37 RN:=BN.o;have C:=zz ((HP.o.ra.below qW).more qW.size);have BM:=zz (HP.o.pu.below qW HP.o.pu.lt);have T:=zz (ownsRow_below HP.o.own qW);clear qW;refine wp_region_noPanic ?_;refine A8 [2] (fun w'=>Ae w' gn 37 RN) Ap ?_
  generalize wc.drew=wv at*
  refine Ac 0 ?_;refine Ac 1 ?_;refine Ba 2 (.agg RN) I (hy:=?_) (h:=?_)
  . (intro w' tV;exact Az 37 _ rfl _ rfl tV underlying37 rfl wD)
  refine Ac 3 ?_;refine Ac 4 ?_;refine Ac 5 ?_;refine Ac 6 ?_;refine Aw 7 ?_;refine AX ?_ ?_
  . kernel_rfl
  intro K hK;rw[Ao Bb];have oN:=Cv (sI.o i O) (A:=f) (n:=(W5 c x i).length) (c:=cn);rw[sG.o]at oN;refine wp_store_mid 37 _ _ rfl N (1+i*74) RN rfl rfl (by rw[←sG.o,Ag];exact Cg Z.o.blk (1+i*74) 74 Aa) iN oN ?_;clear I;refine hK.o _ _ ?_;(try simp only[Rg.lp]);refine Bg Ap ?_ _;refine NoPanic.normal ?_;have d:=Z.o.setNode O (G6 c x i) f (W5 c x i) cn ⟨HP.o.an.1,HP.o.an.2,xq.o i O,C.o,fun D a e=>⟨FV C.o D e,(HP.o.lo D a e).2⟩⟩
  rw[sG.o,show 1+74*i=1+i*74 by omega]at d
  have r9:=zz d;clear d
  have BM:=zz (show Ae (wv.setCells N (1+i*74) RN.toList) gm 70 (row 14 (EQ (G6 c x i)))from Al (w:=wv) HP.o.nm RN.toList (1+i*74) wv BM.o)
  have M:=FQ wv N RN.toList (1+i*74);have Y:=zz (Y.o.run M);have T:=zz (T.o.kept M (.inr fun e=>by have E:=(T.o.lt _ e).1;have h2:=rJ.o;omega))
  have sw:=zz (show ∀j,j<4->0<((X.setNode i (G6 c x i) f (W5 c x i) cn).VL j).length->∀a,(X.setNode i (G6 c x i) f (W5 c x i) cn).VA j=some a->(Value.slice RA (Bz x.bad i).length l).ownBlock≠some a.block/\N<a.block from fun j L m a e=>by
   by_cases ej:j=i
   . subst ej;exact HP.o.er a (by rw[←e];exact(AY _ _ _).symm)
   exact sN.o j L (by rw[←(show(X.setNode i (G6 c x i) f (W5 c x i) cn).VL j=X.VL j from Bj _ _ ej)];exact m) a (by rw[←e];exact(Bj _ _ ej).symm))
  have Z:=zz r9.o.1;clear M r9
  generalize(wv.setCells N (1+i*74) RN.toList)=wz at*
  have rE:=JO (G6 c x i);obtain⟨v0,q0⟩:=AJ (G6 c x i 0);obtain⟨v1,q1⟩:=AJ (G6 c x i 1);obtain⟨v2,q2⟩:=AJ (G6 c x i 67);obtain⟨v3,q3⟩:=AJ (G6 c x i 68);obtain⟨v4,q4⟩:=AJ (G6 c x i 69);obtain⟨v5,q5⟩:=AJ (G6 c x i 6);obtain⟨v6,q6⟩:=AJ (G6 c x i 13);obtain⟨v7,q7⟩:=AJ (G6 c x i 20);obtain⟨v8,q8⟩:=AJ (G6 c x i 70);obtain⟨v9,q9⟩:=AJ (G6 c x i 72);obtain⟨rQ,wH⟩:=AJ (G6 c x i 27);obtain⟨rM,wV⟩:=AJ (G6 c x i 28);obtain⟨rY,wX⟩:=AJ (G6 c x i 29);obtain⟨rZ,wm⟩:=AJ (G6 c x i 30);rw[q0,q1,q2,q3,q4,q5,q6,q7,q8,q9,wH,wV,wX,wm]at rE;have sO:=Pj (sI.o i O);rw[rE]at BM sO;have uQ:=zz rE;have sZ:Below wz.heap.size wz (wz.alloc (.cells #[v0,v1,v2,v3,v4,v5,v6,v7,v8,v9,rQ,rM,rY,rZ] 70)):=DC;have Z:=zz (Z.o.below sZ);have Y:=zz (Y.o.below sZ);have T:=GJ T sZ;have wR:=zz (Jm wz [v0,v1,v2,v3,v4,v5,v6,v7,v8,v9,rQ,rM,rY,rZ] 70)
  have uR:=zz (show ∀u∈[v0,v1,v2,v3,v4,v5,v6,v7,v8,v9,rQ,rM,rY,rZ],u.oneCell'=true from fun u hu=>by rw[Array.all_eq_true']at sO;exact sO u (by simpa using hu))
  have wY:=zz (show w7.heap.size<=(wz.alloc (.cells #[v0,v1,v2,v3,v4,v5,v6,v7,v8,v9,rQ,rM,rY,rZ] 70)).heap.size from Y.o.size)
  have uP:=zz (Hl x.bad i);clear rE sO sZ
  go_wp2_with(first|(refine Ad rfl 70 _ rfl gm rfl BM.o _ underlying70 rfl Ap ?_)|(at_builtin;refine EJ _ rfl (.tmp 118) (.tmp 120) 44 rfl (base:=w7.heap.size) NQ rfl T.o rfl (news:=[v0,v1,v2,v3,v4,v5,v6,v7,v8,v9,rQ,rM,rY,rZ]) rfl wR.o uR.o (by have:=uP.o;unfold maxLen;omega) (by have:=uP.o;omega) wY.o ?_;intro A4 c4 w9 sM uS tK;have vX:=zz sM;have rO:=zz uS;have wh:=zz tK;clear sM uS tK))
  have uz:=zz (show(Bz x.bad (i+1)).length=(Bz x.bad i).length+1 from by rw[rT.o,List.length_append];rfl)
  have wS:=zz (show Gy c x (i+1)=Gy c x i++[v0,v1,v2,v3,v4,v5,v6,v7,v8,v9,rQ,rM,rY,rZ]from by unfold Gy;rw[rT.o,List.flatMap_append];show _++((row 14 (EQ (G6 c x i))).toList++[])=_;rw[uQ.o];rfl)
  have uj:=zz (fun g e=>T.o.lt g e)
  exact⟨⟨i+1,X.setNode i (G6 c x i) f (W5 c x i) cn,A4,c4,Aa,BG,by rw[uz.o],aJ Z.o rO.o (fun e=>by have E:=(uj.o _ e).1;have h2:=rJ.o;omega) (fun j L=>by cases hoj:(X.setNode i (G6 c x i) f (W5 c x i) cn).own j with|none=>exact .inl rfl|some g=>exact .inr fun e=>Pm Z.o L hoj (Ms.Fb T.o (show 70≠65 by decide) g e.symm)) (Ms.Fb T.o El) (fun j L m a e=>(sw.o j L m a e).1),(show setAt X.F i (G6 c x i)=_ from by rw[tH.o,rq.o]),(show setAt X.VL i (W5 c x i)=_ from by rw[qX.o,M5]),uo.o,Y.o.grown rO.o (fun g e=>(uj.o g e).1),by rw[uz.o,wS.o];exact vX.o,fun j L m a e=>⟨by rw[uz.o];exact wh.o.elim (fun h=>by rw[h];exact(sw.o j L m a e).1) (fun h=>by rw[h];exact fun e2=>by injection e2 with e2;have:=((Z.o.ver j L).2.2.2.2 m a e).1;omega),(sw.o j L m a e).2⟩⟩,Ck⟩
 obtain rfl:i=4:=Aa;clear O;have wJ:=zz (Ma Y.o.old wQ.o (by have:=U.o;omega));have tu:=zz (Ma Y.o.old wP.o (by have:=U.o;omega));have y0:=wJ.o.cell 0
 rw[←tO.o,Ah Aa,show Ak c.fr c.F (AO z c.V t) 0=.int .i64 c.fr from rfl]at y0
 have yr:=Z.o.blk.cell 0;rw[Ah Aa]at yr;have wN:=Z.o.blk.thaw 0
 have xE:IntKind.i64.wrap (c.fr+1)=c.fr+1:=by rw[IntKind.wrap_i64];have:=HS.o.fr;omega
 go_upto_region 32 with fail
 have uI:=Z.o.blk.set 0 (.int .i64 (c.fr+1));rw[Di]at uI;have vW:=zz uI
 have tu:=zz (tu.o.other (p:=⟨N,0,none⟩) (by show B+1+1≠N;have:=U.o;omega) (.int .i64 (c.fr+1)))
 have M:=Gj wr N 0 (.int .i64 (c.fr+1));have Y:=zz (Y.o.run M);have T:=zz (T.o.kept M (.inr fun e=>by have E:=(T.o.lt _ e).1;have h2:=rJ.o;omega));have vJ:=zz (fun j (L:j<4)=>Z.o.ver j L)
 have xu:=zz (show ∀j,j<4->Rd (wr.setCell ⟨N,0,none⟩ (.int .i64 (c.fr+1))) (wr.setCell ⟨N,0,none⟩ (.int .i64 (c.fr+1))).heap.size 1 (X.VA j) (X.VL j).length (Au (X.VL j))from fun j L=>Cr (Z.o.ver j L).2.2.2.1 M.size (fun m a e=>M.block a.block ((Z.o.ver j L).2.2.2.2 m a e).1 (fun e2=>by injection e2 with e2;have:=(sN.o j L m a e).2;omega)))
 clear uI M y0 yr wN Z
 generalize(wr.setCell ⟨N,0,none⟩ (.int .i64 (c.fr+1)))=w9 at*
 have tL:(row 297 fun j=>(fun i=>if i=0 then(.int .i64 (c.fr+1):Value)else X.cell i) (0+j))=row 297 (Ak (c.fr+1) (F6 c x) (AO X.VA (W5 c x) X.VC)):=AA fun j L=>by
  rw[Nat.zero_add]
  show(if j=0 then(.int .i64 (c.fr+1):Value)else X.cell j)=_
  unfold Ak
  by_cases h0:j=0
  . rw[Ao h0,Ao h0]
  rw[Aj h0,Aj h0]
  unfold Bl.cell Bl.Rp
  rw[Aj h0,Ao Aa,tH.o,qX.o];rfl
 have i2:(prog.info? 40).map (·.size)=some (row 297 (Ak (c.fr+1) (F6 c x) (AO X.VA (W5 c x) X.VC))).size:=Eg;have z2:(zeroCells40).size=(row 297 (Ak (c.fr+1) (F6 c x) (AO X.VA (W5 c x) X.VC))).size:=Eg;have o2:(row 297 (Ak (c.fr+1) (F6 c x) (AO X.VA (W5 c x) X.VC))).all (·.oneCell')=true:=row_one (CP (Dr.new sI.o vK.o) _ _ _ _);obtain⟨RQ,uJ⟩:=AJ (row 297 (Ak (c.fr+1) (F6 c x) (AO X.VA (W5 c x) X.VC)));have wZ:=zz uJ;rw[uJ]at tL i2 z2 o2;clear uJ
 go_wp2_with(first
  |(refine Cb rfl 40 _ rfl N 0 297 rfl vW.o Aa _ underlying40 rfl Ap ?_;rw[tL])
  |(refine wpList_store_row rfl 40 _ _ rfl (B+1+1) RQ rfl rfl 40 _ tu.o i2 z2 o2 ?_))
 have M:=CK w9 (B+1+1) RQ
 have vZ:=zz (show Below B w (w9.setRow (B+1+1) RQ)from below_setRow (show Below B w w9 from⟨Y.o.os.trans sD.o.os,Y.o.tape.trans sD.o.tape,Y.o.output.trans sD.o.output,Nat.le_trans sD.o.size Y.o.old.1,fun b hb=>(Y.o.old.2 b (by have:=U.o;have:=rJ.o;omega) (by have:=U.o;omega)).trans (sD.o.block b hb)⟩) Aa RQ)
 refine CR rfl rfl rfl rfl (tu.o.setRow RQ) ⟨by rw[underlying40],i2⟩ rfl ⟨X.VA,X.VC,RA,l,?_,fun j L=>?_,?_,?_⟩
 . rw[←wZ.o];rfl
 .obtain⟨E,h2,h3,h4,h5⟩:=vJ.o j L;rw[qX.o]at h2 h4;have h6:=xu.o j L;rw[qX.o]at h6;exact⟨E,h2,Cr h6 M.size (fun m a e=>setRow_other w9 (B+1+1) a.block RQ (by have:=(sN.o j L (by rw[qX.o];exact m) a e).2;have:=U.o;omega)),fun m a e=>by have:=(sN.o j L (by rw[qX.o];exact m) a e).2;have:=U.o;rw[qV.o];omega⟩
 .refine Bf (T.o.kept M (.inr fun e=>by have E:=(T.o.lt _ e).1;have h2:=rJ.o;have:=U.o;omega)) ?_;rw[qV.o];have:=rJ.o;have:=U.o;omega
 rw[qV.o];exact vZ.o
end Cf
end Go.Proofs.YtjobajeggllmiaaGreat
