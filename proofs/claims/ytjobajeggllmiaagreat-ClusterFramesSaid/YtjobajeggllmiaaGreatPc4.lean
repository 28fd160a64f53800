import Derived.Test.YtjobajeggllmiaaGreatPc0
import Derived.Lib.Bytes
import Derived.StillTailTactics
import Derived.Test.YtjobajeggllmiaaGreatPc3
set_option linter.all false
set_option maxHeartbeats 100000000
set_option maxRecDepth 100000
namespace Go.Proofs.YtjobajeggllmiaaGreat
open Ms _root_.Go.Proofs.Tryz
namespace Cl
open Go.RowKit Mem Rws Nd
def Bl.K7(s:Bl){i:Nat}(hi:i<4):s.cell (311+i)=s.EU i:=by
 unfold Bl.cell
 rw[Aj Aa,Aj Aa,Aj Aa,Aj Aa,Aj Aa,Nat.add_sub_cancel_left]
def Gj(w:World)(g i:Nat)(u:Value):w.grownBy (w.setCell ⟨g,i,none⟩ u) (some g):=⟨rfl,rfl,rfl,Bq,fun k _ Z=>heap_setCell_other w ⟨g,i,none⟩ k u (fun e=>Z (by simp[e]))⟩
def FI{w w':World}{base:Nat}{A:Option Addr}{c:Nat}{ms:List Cw}(h:Ms.Cy w base A c ms){row:Option Nat}(X:w.grownBy w' row)(Y:(Value.slice A ms.length c).ownBlock=none\/(Value.slice A ms.length c).ownBlock≠row)(hr:∀g,row=some g->∃Z t,w.heap[g]?=some (.cells Z t (0,0))/\t≠3):Ms.Cy w' base A c ms:=by
 obtain⟨O,M,V⟩:=h;refine⟨O,M.kept X Y,fun i m W=>?_⟩;obtain⟨a,N,T,U,R⟩:=V i m W;exact⟨a,N,T,Ew U X hr,R⟩
def IW{w w':World}{b:Nat}(h:w'.heap[b]?=w.heap[b]?)(o:Nat): w'.cell? ⟨b,o,none⟩= w.cell? ⟨b,o,none⟩:=by
 simp only[World.cell?,h]
def Cr{w w':World}{B Z size n:Nat}{A:Option Addr}{xs:List Value}(h:Rd w B size A n xs)(U:B<=Z)(X:0<n->∀a,A=some a->w'.heap[a.block]?=w.heap[a.block]?):Rd w' Z size A n xs:=
 ⟨h.1,fun Y=>let ⟨b,o,e,hb,W⟩:=h.2 Y;⟨b,o,e,Nat.lt_of_lt_of_le hb U,fun j u V=>(IW (X Y _ e) _).trans (W j u V)⟩⟩
def Cj.push{w N:World}{R I:Nat}{s:Bl}(h:Cj w R I s){Z:Nat}(G:Z<4){m:Cw}{a:Option Addr}{ca:Nat}{q:List Value}(n:∀i m,(s.bX Z)[i]?=some m->∃a W,(q.drop (i*4)).take 4=Ms.Mg m a W/\w.ownsRow I 3 1 (.slice a m.zs.length W) m.zs.length (Ms.AQ m.zs)/\m.zs.length*8<=140737488351232)(ho:w.ownsRow I 65 4 (s.EU Z) (s.bX Z).length q)(hm:w.ownsRow I 3 1 (.slice a m.zs.length ca) m.zs.length (Ms.AQ m.zs))(hl:m.zs.length*8<=140737488351232){A':Option Addr}{W:Nat}(ho':N.ownsRow I 65 4 (.slice A' ((s.bX Z).length+1) W) ((s.bX Z).length+1) (q++Ms.Mg m a ca))(hg:w.grownBy N (s.own Z))(hat:(Value.slice A' ((s.bX Z).length+1) W).ownBlock=s.own Z\/(Value.slice A' ((s.bX Z).length+1) W).ownBlock=some w.heap.size):
  Cj (N.setCell ⟨R,311+Z,none⟩ (.slice A' ((s.bX Z).length+1) W)) R I (s.box Z A' W (s.bX Z++[m]))/\Keep w (N.setCell ⟨R,311+Z,none⟩ (.slice A' ((s.bX Z).length+1) W)) R s (s.box Z A' W (s.bX Z++[m])):=by
 have x:=h.own_ne G;have o:=h.blk.lt;have u:Ae N R 61 (row 315 s.cell):=h.blk.grown hg (fun e=>x e.symm);have J:(s.bX Z++[m]).length=(s.bX Z).length+1:=Bq
 have T:(s.box Z A' W (s.bX Z++[m])).own Z=(Value.slice A' ((s.bX Z).length+1) W).ownBlock:=by
  unfold Bl.own;rw[s.jQ,J]
 have Y:∀i,i≠Z->(s.box Z A' W (s.bX Z++[m])).own i=s.own i:=fun i hi=>by unfold Bl.own;rw[s.jr A' W _ hi]
 have v:∀g,some R=some g->∃H t,N.heap[g]?=some (.cells H t (0,0))/\t≠3:=fun g e=>by injection e with e;subst e;exact⟨_,_,u,El⟩
 have O:=Gj N R (311+Z) (.slice A' ((s.bX Z).length+1) W);have C:(N.setCell ⟨R,311+Z,none⟩ (.slice A' ((s.bX Z).length+1) W)).heap.size=N.heap.size:=Bq
 have E:∀b,b<w.heap.size->b≠R->(∀i,i<4->s.own i≠some b)->(N.setCell ⟨R,311+Z,none⟩ (.slice A' ((s.bX Z).length+1) W)).heap[b]?=w.heap[b]?:=fun b hb r k=>
  (O.block b (Nat.lt_of_lt_of_le hb hg.size) (fun e=>by injection e with e;exact r e)).trans (hg.block b hb fun e=>k Z G e.symm)
 have y:∀g,s.own Z=some g->∃H t,w.heap[g]?=some (.cells H t (0,0))/\t≠3:=Ms.Fb ho El
 have L:∀ {A:Option Addr} {c:Nat} {ms:List Cw},Ms.Cy N I A c ms->Ms.Cy (N.setCell ⟨R,311+Z,none⟩ (.slice A' ((s.bX Z).length+1) W)) I A c ms:=fun {A c ms} hb=>by
  refine FI hb O ?_ v
  cases hbk:(Value.slice A ms.length c).ownBlock with
  |none=>exact .inl rfl
  |some g=>
   refine .inr fun e=>?_
   injection e with e
   obtain⟨ys,hy,_⟩:=hb
   obtain⟨H,t,B,l⟩:=Ms.Fb hy (show 65≠61 by decide) g hbk
   rw[e]at B
   unfold Ae at u
   rw[u]at B
   injection B with B
   injection B with _ B _
   exact l B.symm
 constructor
 .refine⟨?_,h.low,fun i hi=>?_,fun i hi=>?_,fun i j hi z F=>?_⟩
  .have:=u.set (311+Z) (.slice A' ((s.bX Z).length+1) W);rw[←J,s.lY Z G]at this;rw[←J];exact this
  .obtain⟨d,f,h3,h4,D⟩:=h.ver i hi;refine⟨d,f,h3,Cr h4 (by rw[C];exact hg.size) (fun V a e=>E _ (D V a e).1 (D V a e).2.1 fun i hi=>(D V a e).2.2 i hi),fun V a e=>?_⟩;refine⟨by rw[C];exact Nat.lt_of_lt_of_le (D V a e).1 hg.size,(D V a e).2.1,fun j z=>?_⟩
   by_cases M:j=Z
   .subst M;rw[T]
    rcases hat with U|U
    . rw[U];exact(D V a e).2.2 j z
    rw[U];intro p;injection p with p;have:=(D V a e).1;omega
   rw[Y j M];exact(D V a e).2.2 j z
  .by_cases X:i=Z
   .subst X;have:=Ms.Cy.snoc n ho hm hl ho' hg
    show Ms.Cy _ I (setAt s.bA i A' i) (setAt s.bC i W i) (setAt s.bX i (s.bX i++[m]) i)
    rw[AY,AY,AY];exact L this
   show Ms.Cy _ I (setAt s.bA Z A' i) (setAt s.bC Z W i) (setAt s.bX Z (s.bX Z++[m]) i)
   rw[Bj _ _ X,Bj _ _ X,Bj _ _ X];exact L (FI (h.box i hi) hg (h.apart i Z hi G X) y)
  by_cases X:i=Z
  .subst X;rw[T,Y j (fun e=>F e.symm)]
   rcases hat with U|U
   . rw[U];exact h.apart i j hi z F
   rw[U];refine .inr fun e=>?_;have:=(h.Ju z e.symm).2;omega
  rw[Y i X]
  by_cases M:j=Z
  .subst M;rw[T]
   rcases hat with U|U
   . rw[U];exact h.apart i j hi z F
   rw[U]
   cases hoi:s.own i with
   |none=>exact .inl rfl
   |some g=>
    refine .inr fun e=>?_
    injection e with e
    have:=(h.Ju hi hoi).2;omega
  rw[Y j M];exact h.apart i j hi z F
 exact⟨O.os.trans hg.os,O.tape.trans hg.tape,O.output.trans hg.output,Nat.le_trans hg.size O.size,fun i hi=>by
  by_cases X:i=Z
  .subst X;rw[T]
   rcases hat with U|U
   . exact .inl U
   exact .inr ⟨_,U,Nat.le_refl _⟩
  exact .inl (Y i X),E⟩
end Cl
namespace Sm
open Go.ChangeShapes Go.WideShapes Go.ChangeAt Go.RowKit Mem
def Br(Z:List Nat):List Value:=Z.map fun(x:Nat)=>Value.int .u8 (x:Int)
def LP(Z:List Nat)(k:Nat)(Y:k<Z.length):(Br Z)[k]?=some (.int .u8 (Z[k]:Int)):=by
 simp[Br,Y]
def UO:∀(Y:List Int),(∀z∈Y,(Lit.int .u8 z).wf=true)->∃Z:List Nat,Y.map (Value.int .u8)=Br Z/\Z.length=Y.length/\∀x∈Z,x<256
 |[],_=>⟨[],rfl,rfl,Bq⟩
 |z::Y,h=>by
  obtain⟨Z,U,V,T⟩:=UO Y (fun y hy=>h y (List.mem_cons_of_mem _ hy));have W:=Op.wf_u8 (h z List.mem_cons_self);refine⟨z.toNat::Z,?_,by simp[V],?_⟩
  .have e:((z.toNat:Nat):Int)=z:=Int.toNat_of_nonneg W.1;simp only[Br,List.map_cons,e];exact congrArg _ U
  intro x X
  cases List.mem_cons.1 X with
  |inl e=>subst e;omega
  |inr e=>exact T x e
def Dm:Elem prog 74 5 (.int .u8 0) 1 1:=⟨underlying74,Ap,rfl,Aa⟩
def EY(Z:List Nat):∀u∈Br Z,u.oneCell'=true:=fun u Y=>by
 obtain⟨z,_,rfl⟩:=List.mem_map.1 Y;rfl
def PU(w w':World)(Z:List Nat)(e:Ending):Prop:=
 ∃A c,e=.returned (.slice A Z.length c)/\w'.ownsRow w.heap.size 5 1 (.slice A Z.length c) Z.length (Br Z)/\Below w.heap.size w w'
def UR(w:World)(C:Array Value)(e:TypeId)(Z:Nat×Nat):Rd (w.alloc (.cells C e Z)) (w.heap.size+1) 1 (some ⟨w.heap.size,0,none⟩) C.size C.toList:=by
 have h:(w.alloc (.cells C e Z)).heap[w.heap.size]?=some (.cells C e Z):=by
  show(w.heap.push _)[w.heap.size]?=_;simp
 refine⟨Bq,fun _=>⟨w.heap.size,0,rfl,Aa,fun j u Y=>?_⟩⟩;rw[Nat.zero_add];simp only[World.cell?,h]
 simpa using Y
def Ed(a b:List Nat):Br (a++b)=Br a++Br b:=by simp[Br]
def Ff(w:World)(v:Value)(e:TypeId):Rd (w.alloc (.cells #[v] e)) (w.heap.size+1) 1 (some ⟨w.heap.size,0,none⟩) 1 [v]:=UR w #[v] e (0,0)
def O7{P:Program}{w:World}{ops:Array Oper}{rest:List Oper}{o:Oper}{a:Act}{Q:Exit->Act->World->Prop}(hg:o.guard=none)(l c:Operand)(t:TypeId)(hop:o.op=Op.makeSlice t l c){e:TypeId}{z:Value}{size bytes:Nat}(E:Elem P t e z size bytes){kl kc:IntKind}{L C:Int}(n:Nat)(hl:a.eval l=.int kl L)(hc:a.eval c=.int kc C)(hL:L=0)(hC:C=(n:Int))(hb:bytes*n<=281474976710656)(hn:n<=maxLen){base:Nat}(hbase:base<=w.heap.size)(h:∀Y,Y.ownsRow base e size (.slice (some ⟨w.heap.size,0,none⟩) 0 n) 0 []->w.grownBy Y none->wpList P ops Q rest (a.put o.dst (.slice (some ⟨w.heap.size,0,none⟩) 0 n)) Y):wpList P ops Q (o::rest) a w:=by
 obtain⟨i,hi,W,V,Z⟩:=info_parts E.info;subst Z
 have X:(i.bytes:Int)*(n:Int)<=281474976710656:=by
  have h:((i.bytes*n:Nat):Int)<=281474976710656:=Aa
  rwa[Int.natCast_mul]at h
 unfold maxLen at hn
 have U:=run_make (P:=P) w t e i z E.und hi W kl kc 0 n Aa Aa X Aa;refine wpList_plain hg fun K hK=>?_;subst hL;subst hC;simp only[Int.toNat_natCast,Int.toNat_zero,V]at U
 unfold Oper.wp
 simp only[execOp,hop,hl,hc,U,Result.andThen_ok,Sem.run_bind,Sem.run_pure];refine hK _ _ (h _ (World.ownsRow_made w _ n hbase GX ?_) ?_)
 . rw[size_madeCells]
 exact World.grownBy_alloc _ _ _
def pX(w wr:World)(v:Value)(n:Nat)(Z:List Nat):Prop:=∃A c,v=.slice A n c/\n=Z.length/\wr.ownsRow w.heap.size 5 1 (.slice A n c) n (Br Z)
end Sm
namespace Sm
open Go.ChangeShapes Go.WideShapes Go.ChangeAt Go.RowKit Mem
def aR(A:Option Addr)(c:Nat)(Z:List Nat)(B:Nat)(w:World)(M:B<=w.heap.size)(X:A=none->c=0)(V:Z.length<=c)(N:Z.length<=140737488355328)(T:Rd w B 1 A Z.length (Br Z)):
  Calls prog 23 #[.slice A Z.length c] w fun e w'=>PU w w' Z e:=by
 go_in
 go_wp2_with(at_builtin;refine Aq _ rfl _ _ _ rfl (base:=w.heap.size) Dm rfl (World.ownsRow_nil _ _ _ _) rfl (fun h=>⟨by have:=X h;omega,X h⟩) (by exact T) (EY Z) GX Aa Nr ?_)
 intro R O L U Y W
 go_wp2
 go_ret
 exact⟨R,O,rfl,Y,(Below.refl _ _).grown W Nr (by simp[Value.ownBlock])⟩
end Sm
namespace SumLaw
def step1(c:Nat):Nat:=if c%2=1 then(c/2) ^^^ 3988292384 else c/2
def steps:Nat->Nat->Nat
 |0,c=>c
 |n+1,c=>step1 (steps n c)
def tab(i:Nat):Nat:=steps 8 i
def Ir(c x:Nat):Nat:=tab ((c%256) ^^^ x) ^^^ (c/256)
def RY(c x k:Nat):Nat:=if(c%2+x/2 ^ k)%2=1 then(c/2) ^^^ 3988292384 else c/2
def KJ(c x:Nat):Nat->Nat
 |0=>c
 |k+1=>RY (KJ c x k) x k
def over(f:Nat->Nat->Nat)(c:Nat)(l:List Nat):Nat:=l.foldl f c
def more(s:Int)(l:List Nat):Int:=4294967295-(over Ir (4294967295-(s%4294967296).toNat) l:Nat)
def Wh(a b:Nat):(a ^^^ b)%2=(a+b)%2:=by
 have h:= @Nat.xor_mod_two_pow a b 1;simp only[Nat.pow_one]at h;rw[h]
 rcases Nat.mod_two_eq_zero_or_one a with Z|Z<;>rcases Nat.mod_two_eq_zero_or_one b with hb|hb<;>rw[Z,hb]
 . rw[show(0 ^^^ 0:Nat)=0 from rfl];omega
 . rw[show(0 ^^^ 1:Nat)=1 from rfl];omega
 . rw[show(1 ^^^ 0:Nat)=1 from rfl];omega
 rw[show(1 ^^^ 1:Nat)=0 from rfl];omega
def d9(a b:Nat):(a ^^^ b)/2=(a/2) ^^^ (b/2):=by
 have h:= @Nat.xor_div_two_pow a b 1
 simpa using h
def Sq(a b:Nat):step1 (a ^^^ b)=step1 a ^^^ step1 b:=by
 unfold step1
 rw[Wh,d9]
 rcases Nat.mod_two_eq_zero_or_one a with Z|Z<;>rcases Nat.mod_two_eq_zero_or_one b with hb|hb
 . rw[Aj Aa,Aj Aa,Aj Aa]
 . rw[Ao Aa,Aj Aa,Ao Aa,Nat.xor_assoc]
 . rw[Ao Aa,Ao Aa,Aj Aa,Nat.xor_assoc,Nat.xor_assoc,Nat.xor_comm (b/2)]
 rw[Aj Aa,Ao Aa,Ao Aa,Nat.xor_assoc (a/2),Nat.xor_comm (b/2),←Nat.xor_assoc 3988292384,Nat.xor_self,Nat.zero_xor]
def bn(n a b:Nat):steps n (a ^^^ b)=steps n a ^^^ steps n b:=by
 induction n with
 |zero=>rfl
 |succ n ih=>unfold steps;rw[ih,Sq]
def XJ(n c:Nat):steps n (step1 c)=step1 (steps n c):=by
 induction n with
 |zero=>rfl
 |succ n ih=>unfold steps;rw[ih]
def WR(n h:Nat):steps n (2 ^ n*h)=h:=by
 induction n generalizing h with
 |zero=>simp[steps]
 |succ n ih=>
  have e:steps (n+1) (2 ^ (n+1)*h)=steps n (step1 (2 ^ (n+1)*h)):=by rw[XJ];rfl
  rw[e,Nat.pow_succ]
  have Z:step1 (2 ^ n*2*h)=2 ^ n*h:=by
   unfold step1
   have:2 ^ n*2*h=2*(2 ^ n*h):=by rw[Nat.mul_comm (2 ^ n) 2,Nat.mul_assoc]
   rw[this,Aj Aa];omega
  rw[Z,ih]
def og(a:Nat):(a%256) ^^^ (256*(a/256))=a:=by
 have h:(a%2 ^ 8) ^^^ (2 ^ 8*(a/2 ^ 8))=a:=by
  apply Nat.eq_of_testBit_eq
  intro i;rw[Nat.testBit_xor,Nat.testBit_mod_two_pow,Nat.testBit_two_pow_mul,Nat.testBit_div_two_pow]
  by_cases hi:i<8
  .have Z:¬8<=i:=Aa
   simp[hi,Z]
  have e:i-8+8=i:=Aa;have Z:8<=i:=Aa
  simp[hi,e,Z]
 simpa using h
def XQ(a x:Nat)(Z:x<256):(a ^^^ x)%256=(a%256) ^^^ x:=by
 have h:= @Nat.xor_mod_two_pow a x 8
 rw[show(2:Nat) ^ 8=256 from rfl]at h
 rw[h,Nat.mod_eq_of_lt Z]
def Ym(a x:Nat)(Z:x<256):(a ^^^ x)/256=a/256:=by
 have h:= @Nat.xor_div_two_pow a x 8
 rw[show(2:Nat) ^ 8=256 from rfl]at h
 rw[h,Nat.div_eq_of_lt Z,Nat.xor_zero]
def OL(c x:Nat)(Z:x<256):Ir c x=steps 8 (c ^^^ x):=by
 have h:=og (c ^^^ x);rw[XQ c x Z,Ym c x Z]at h;rw[←h,bn];have e:=WR 8 (c/256)
 rw[show(2:Nat) ^ 8=256 from rfl]at e
 rw[e];rfl
def OO(c x:Nat):∀k,KJ c x k ^^^ (x/2 ^ k)=steps k (c ^^^ x)
 |0=>by simp[KJ,steps]
 |k+1=>by
  have W:=OO c x k
  unfold steps
  rw[←W,Sq];have X:KJ c x (k+1)=RY (KJ c x k) x k:=rfl;rw[X]
  unfold RY
  generalize KJ c x k=d
  have Z:x/2 ^ (k+1)=x/2 ^ k/2:=by rw[Nat.pow_succ,Nat.div_div_eq_div_mul]
  rw[Z];generalize x/2 ^ k=y
  unfold step1
  rcases Nat.mod_two_eq_zero_or_one d with Y|Y<;>rcases Nat.mod_two_eq_zero_or_one y with hb|hb
  . rw[Aj Aa,Aj Aa,Aj Aa]
  . rw[Ao Aa,Aj Aa,Ao Aa,Nat.xor_assoc,Nat.xor_comm 3988292384]
  . rw[Ao Aa,Ao Aa,Aj Aa]
  rw[Aj Aa,Ao Aa,Ao Aa,Nat.xor_assoc (d/2),←Nat.xor_assoc 3988292384,Nat.xor_comm 3988292384 (y/2),Nat.xor_assoc (y/2),Nat.xor_self,Nat.xor_zero]
def Xi(c x:Nat)(Z:x<256):KJ c x 8=Ir c x:=by
 have h:=OO c x 8
 rw[show(2:Nat) ^ 8=256 from rfl,Nat.div_eq_of_lt Z,Nat.xor_zero]at h
 rw[h,OL c x Z]
def fJ(c:Nat)(h:c<4294967296):step1 c<4294967296:=by
 unfold step1
 split
 . exact Nat.xor_lt_two_pow (n:=32) Aa Aa
 omega
def Q8(n c:Nat)(h:c<4294967296):steps n c<4294967296:=by
 induction n with
 |zero=>exact h
 |succ n ih=>exact fJ _ ih
def dM(c x:Nat)(Y:c<4294967296)(Z:x<256):Ir c x<4294967296:=by
 rw[OL c x Z];exact Q8 8 _ (Nat.xor_lt_two_pow (n:=32) Aa Aa)
def l6(c x k:Nat)(Z:c<4294967296):RY c x k<4294967296:=by
 unfold RY
 split
 . exact Nat.xor_lt_two_pow (n:=32) Aa Aa
 omega
def gL(c x k:Nat)(Z:c<4294967296):KJ c x k<4294967296:=by
 induction k with
 |zero=>exact Z
 |succ k ih=>exact l6 _ _ _ ih
def Pn(l:List Nat)(c:Nat)(Y:c<4294967296)(Z:∀x∈l,x<256):over Ir c l<4294967296:=by
 induction l generalizing c with
 |nil=>exact Y
 |cons x l ih=>exact ih _ (dM c x Y (Z x List.mem_cons_self)) (fun y hy=>Z y (List.mem_cons_of_mem _ hy))
def cO(f:Nat->Nat->Nat)(c:Nat)(l:List Nat)(x:Nat):over f c (l++[x])=f (over f c l) x:=by simp[over]
def SF(f:Nat->Nat->Nat)(c:Nat)(l:List Nat)(k:Nat)(Z:k<l.length):over f c (l.take (k+1))=f (over f c (l.take k)) l[k]:=by
 rw[List.take_succ_eq_append_getElem Z,cO]
def bit(c k:Nat):Nat:=c/2 ^ k%2
def PW(c k:Nat):bit c k<=1:=by unfold bit;omega
def back(c:Nat):Nat->Int
 |0=>0
 |k+1=>2*back c k+1-bit c (31-k)
def lI(c x k:Nat):(bit c 0+x/2 ^ k%2)%2=(c%2+x/2 ^ k)%2:=by unfold bit;simp
def bU(c i:Nat):bit (c/2) i=bit c (i+1):=by
 unfold bit;rw[Nat.div_div_eq_div_mul,Nat.pow_succ,Nat.mul_comm 2]
def lM(a b i:Nat):bit (a ^^^ b) i=(bit a i+bit b i)%2:=by
 unfold bit
 rw[Nat.xor_div_two_pow,Wh];omega
def dO(c i:Nat)(h:c<2 ^ i):bit c i=0:=by unfold bit;rw[Nat.div_eq_of_lt h]
def back_eq(c:Nat)(T:c<4294967296):back c 32=4294967295-(c:Int):=by
 have Z:∀k,k<=32->back c k=(2 ^ k-1:Nat)-(c/2 ^ (32-k):Nat):=by
  intro k
  induction k with
  |zero=>intro _;simp[back,Nat.div_eq_of_lt T]
  |succ k ih=>
   intro R
   unfold back
   rw[ih Aa]
   unfold bit
   have U:32-k=(31-k)+1:=Aa;have Y:32-(k+1)=31-k:=Aa;rw[U,Y]
   have X:c/2 ^ (31-k+1)=c/2 ^ (31-k)/2:=by rw[Nat.pow_succ,Nat.div_div_eq_div_mul]
   rw[X]
   have W:2 ^ (k+1)=2*2 ^ k:=by rw[Nat.pow_succ,Nat.mul_comm]
   rw[W];have V:0<2 ^ k:=Nat.two_pow_pos k;generalize 2 ^ k=p at V;generalize c/2 ^ (31-k)=y;omega
 have:=Z 32 Nr
 simp at this
 rw[this]
def kT(m k:Nat)(M:m<4294967296)(N:k<32):(bit (4294967295-m) k:Int)=1-bit m k:=by
 unfold bit
 have J:(4294967295-m)/2 ^ k%2=((4294967295-m)/2 ^ k)%2:=rfl
 have W:2 ^ 32=2 ^ k*2 ^ (32-k):=by rw[←Nat.pow_add];congr 1;omega
 have T:2 ^ (32-k)=2*2 ^ (31-k):=by rw[←Nat.pow_succ'];congr 1;omega
 have Z:0<2 ^ k:=Nat.two_pow_pos k;have R:(2:Nat) ^ 32=4294967296:=rfl;rw[R,T]at W;generalize 2 ^ k=p at W Z;generalize 2 ^ (31-k)=q at W;have Y:=Nat.div_add_mod m p;have U:=Nat.mod_lt m Z;generalize I:m/p=d at Y;generalize m%p=r at Y U;have V:p*(2*q)=4294967296:=W.symm
 have X:d<2*q:=by
  have:p*d<p*(2*q):=Aa;exact Nat.lt_of_mul_lt_mul_left this
 have e:4294967295-m=p*(2*q-1-d)+(p-1-r):=by
  have L:p*(2*q-1-d)=p*(2*q)-p-p*d:=by rw[Nat.mul_sub,Nat.mul_sub,Nat.mul_one]
  have O:p+p*d<=p*(2*q):=by
   have:p*(d+1)<=p*(2*q):=Nat.mul_le_mul_left _ X;rw[Nat.mul_add,Nat.mul_one]at this;omega
  omega
 rw[e,Nat.mul_add_div Z,Nat.div_eq_of_lt (by omega:p-1-r<p)];omega
def X6(s:Int)(k:Nat)(R:k<32):((bit (s%4294967296).toNat k:Nat):Int)=s/2 ^ k%2:=by
 unfold bit
 have X:0<=s%4294967296:=Aa;rw[Int.natCast_emod,Int.natCast_ediv,Int.toNat_of_nonneg X];have hq:=Int.mul_ediv_add_emod s 4294967296;generalize s%4294967296=m at hq;generalize s/4294967296=q at hq
 have U:(4294967296:Int)=2 ^ k*(2*2 ^ (31-k)):=by
  have V:(2:Nat) ^ 32=2 ^ k*(2*2 ^ (31-k)):=by rw[←Nat.pow_succ',←Nat.pow_add];congr 1;omega
  have W:((2 ^ 32:Nat):Int)=((2 ^ k*(2*2 ^ (31-k)):Nat):Int):=by rw[V]
  simpa using W
 have Y:(2:Int) ^ k≠0:=Int.pow_ne_zero Aa;rw[←hq,U,Int.mul_assoc,Int.mul_comm,Int.mul_assoc]
 have Z:((2*2 ^ (31-k)*q*2 ^ k+m:Int))=m+2*(2 ^ (31-k)*q)*2 ^ k:=by
  rw[Int.add_comm,Int.mul_assoc 2]
 have T:(2*2 ^ (31-k)*(q*2 ^ k)+m:Int)=m+2*(2 ^ (31-k)*q)*2 ^ k:=by
  rw[←Int.mul_assoc];exact Z
 first
  |rw[Z,Int.add_mul_ediv_right _ _ Y];push_cast;omega
  |rw[T,Int.add_mul_ediv_right _ _ Y];push_cast;omega
def bF(s:Int)(k:Nat)(Z:k<32):((bit (4294967295-(s%4294967296).toNat) k:Nat):Int)=1-s/2 ^ k%2:=by
 rw[kT _ _ Aa Z,X6 s k Z]
def Xg(c:Nat):∀k,k<=32->0<=back c k/\back c k<4294967296:=by
 have h:∀k,k<=32->0<=back c k/\back c k<2 ^ k:=by
  intro k
  induction k with
  |zero=>intro _;simp[back]
  |succ k ih=>
   intro Z;have:=ih Aa;have hb:=PW c (31-k)
   have e:(2:Int) ^ (k+1)=2*2 ^ k:=by rw[Int.pow_succ,Int.mul_comm]
   unfold back
   rw[e];omega
 intro k Z;have X:=h k Z
 have Y:(2:Int) ^ k<=2 ^ 32:=by
  have:(2:Nat) ^ k<=2 ^ 32:=Nat.pow_le_pow_right Aa Z
  exact_mod_cast this
 have W:(2:Int) ^ 32=4294967296:=rfl;omega
end SumLaw
namespace Sm
open Go.ChangeShapes Go.WideShapes Go.ChangeAt Go.RowKit Mem SumLaw
def Eb(k:Nat):Array Value:=((List.range 256).map fun i=>Value.int .u32 (if i<k then(tab i:Int)else 0)).toArray
def KQ:Eb 0=zeroCells173:=Ap
def Et(k:Nat):(Eb k).size=256:=by simp[Eb]
def LY(k i:Nat)(hi:i<256):(Eb k)[i]?=some (.int .u32 (if i<k then(tab i:Int)else 0)):=by
 simp[Eb,hi]
def Yw(k:Nat)(Y:k<256):(Eb k).setIfInBounds k (.int .u32 (tab k:Int))=Eb (k+1):=by
 apply Array.ext_getElem?
 intro i;rw[Array.getElem?_setIfInBounds,Et]
 by_cases hi:i<256
 .rw[LY _ i hi,LY _ i hi]
  by_cases e:k=i
  .subst e
   simp[hi]
  rw[Aj e]
  by_cases Z:i<k
  . rw[Ao Z,Ao Aa]
  rw[Aj Z,Aj Aa]
 rw[Aj Aa,Array.getElem?_eq_none (by rw[Et];omega),Array.getElem?_eq_none (by rw[Et];omega)]
def QU{k:Nat}:(Eb k).all (·.oneCell')=true:=by
 rw[Array.all_eq_true_iff_forall_mem];intro v Z;simp only[Eb,List.mem_toArray,List.mem_map]at Z;obtain⟨i,_,rfl⟩:=Z;rfl
def and1(c:Nat)(h:c<4294967296):bits .and .u32 (c:Int) 1=(c:Int)%2:=by
 have:=u32_and_nat c 1 h Aa;rw[nat_mask1]at this
 simpa using this
def qy(c:Nat)(h:c<4294967296):bits .xor .u32 ((c:Int)/2) 3988292384=((c/2 ^^^ 3988292384:Nat):Int):=by
 have:=u32_xor_nat (c/2) 3988292384 Aa Aa
 simpa using this
def Table(w w':World)(e:Ending):Prop:=e=.returned (.agg (Eb 256))/\Below w.heap.size w w'
def aY(w:World):
  Calls prog 130 #[] w fun e w'=>Table w w' e:=by
 have V:Ae ((w.alloc (.cells zeroCells173 173)).alloc (.cells zeroCells173 173)) w.heap.size 173 (Eb 0):=by rw[KQ];exact(Ae.new rfl).alloc _
 have X:Ae ((w.alloc (.cells zeroCells173 173)).alloc (.cells zeroCells173 173)) (w.heap.size+1) 173 (Eb 0):=by rw[KQ];exact Ae.new Bq
 have hb:Below w.heap.size w ((w.alloc (.cells zeroCells173 173)).alloc (.cells zeroCells173 173)):=(DC).alloc Bq _
 go_in
 go_wp2_with fail
 go_loopw[4] (fun i wr=>∃k:Nat,k<=256/\i=.int .i64 k/\Ae wr w.heap.size 173 (Eb 0)/\Ae wr (w.heap.size+1) 173 (Eb k)/\Below w.heap.size w wr) (fun i _=>256-(intOf i).toNat)
 .exact⟨0,Aa,rfl,V,X,hb⟩
 clear V X hb;obtain⟨k,M,rfl,V,X,hb⟩:=hrel
 by_cases W:k<256
 .go_wp2_with fail
  go_loop[3,9] (fun c j=>∃n:Nat,n<=8/\j=.int .i64 n/\c=.int .u32 (steps n k:Nat)) (fun _ j=>8-(intOf j).toNat)
  .exact⟨0,Aa,rfl,rfl⟩
  obtain⟨n,I,rfl,rfl⟩:=hrel;have U:=Q8 n k Aa
  by_cases N:n<8
  .have T:=zz (show steps (n+1) k=step1 (steps n k)from rfl)
   generalize steps n k=c at U T ⊢;have J:=and1 c U;have L:=qy c U
   by_cases Z:(c:Int)%2=1
   .have R:=zz (show step1 c=(c/2) ^^^ 3988292384 from by unfold step1;rw[Ao Aa])
    have Y:((c:Int)%2==1)=true:=by simpa using Z
    clear Z;go_wp2_with fail;exact⟨⟨n+1,Aa,BG,by rw[T.o,R.o]⟩,Ck⟩
   have R:=zz (show step1 c=c/2 from by unfold step1;rw[Aj Aa])
   have Y:((c:Int)%2==1)=false:=by simpa using Z
   clear Z;go_wp2_with fail;exact⟨⟨n+1,Aa,BG,by rw[T.o,R.o];go_num⟩,Ck⟩
  obtain rfl:n=8:=Aa;have O:=X.cell k;have H:=X.thaw k;rw[LY _ _ W]at O;go_wp2_with fail
  exact⟨⟨k+1,Aa,BG,V.other Bq _,by have:=X.set k (.int .u32 (steps 8 k:Nat));rwa[show steps 8 k=tab k from rfl,Yw k W]at this,hb.setCell Bq _⟩,Ck⟩
 obtain rfl:k=256:=Aa;clear W
 go_wp2_with(first
  |(refine wpList_load_row rfl 173 _ rfl (w.heap.size+1) rfl 173 (Eb 256) (0,0) _ X underlying173 rfl (by rw[Et];kernel_rfl) ?_)
  |(refine wpList_store_row rfl 173 _ _ rfl w.heap.size (Eb 256) rfl rfl 173 (Eb 0) V (by rw[Et];kernel_rfl) (by simp[Et]) QU ?_))
 refine Fs rfl rfl (V.setRow _) underlying173 rfl (by rw[Et];kernel_rfl) rfl ⟨rfl,below_setRow hb Nr _⟩
def nJ(a:Int)(Y:0<=a)(X:a<4294967296):bits .xor .u32 IntKind.u32.max a=4294967295-a:=by
 obtain⟨n,rfl⟩:=Int.eq_ofNat_of_zero_le Y;have e:IntKind.u32.max=((4294967295:Nat):Int):=El;rw[e,u32_xor_nat 4294967295 n Aa Aa]
 have Z:4294967295 ^^^ n=2 ^ 32-(n+1):=by
  apply Nat.eq_of_testBit_eq
  intro i
  rw[Nat.testBit_two_pow_sub_succ Aa,Nat.testBit_xor,show(4294967295:Nat)=2 ^ 32-(0+1)from rfl,Nat.testBit_two_pow_sub_succ Aa]
  by_cases hi:i<32
  . simp[hi]
  have:n.testBit i=false:=Nat.testBit_lt_two_pow (Nat.lt_of_lt_of_le (by omega:n<2 ^ 32) (Nat.pow_le_pow_right Aa Aa))
  simp[hi,this]
 rw[Z];omega
def qp(c x:Nat)(Z:x<256):bits .xor .u8 ((c:Int)%256) (x:Int)=((c%256 ^^^ x:Nat):Int):=by
 have:=u8_xor_nat (c%256) x Aa Z
 simpa using this
def pE(t c:Nat)(Z:t<4294967296)(Y:c<4294967296):bits .xor .u32 (t:Int) ((c:Int)/256)=((t ^^^ c/256:Nat):Int):=by
 have:=u32_xor_nat t (c/256) Z Aa
 simpa using this
def dH(s:Int)(A:Option Addr)(c:Nat)(Z:List Nat)(B:Nat)(w:World)(hB:B<=w.heap.size)(hs: -9223372036854775808<=s/\s<=9223372036854775807)(hl:Z.length<=9223372036854775807)(E:∀x∈Z,x<256)(f:Rd w B 1 A Z.length (Br Z)):
  Calls prog 107 #[.int .i64 s,.slice A Z.length c] w fun e w'=>e=.returned (.int .i64 (more s Z))/\Below w.heap.size w w':=by
 have D:=zz E;clear E
 go_in
 go_wp2_with fail;refine(aY _).mono ?_;rintro e V ⟨rfl,W⟩;have qQ:=W.size
 have v:Ae (V.alloc (.cells zeroCells173 173)) V.heap.size 173 (Eb 0):=by rw[KQ];exact Ae.new rfl
 have m:=v.setRow (Eb 256);have J:=(f.below (W.mono hB)).alloc Aa (.cells zeroCells173 173);have I:Below w.heap.size w (V.alloc (.cells zeroCells173 173)):=W.alloc W.size _;have G:=below_setRow (g:=V.heap.size) I W.size (Eb 256)
 have N:=J.keep (w':=(V.alloc (.cells zeroCells173 173)).setRow V.heap.size (Eb 256)) (fun b o hb=>World.cell?_of_block (Go.setRow_other _ _ _ _ (by show b≠V.heap.size;omega)))
 go_wp2_with(refine wpList_store_row rfl 173 _ _ rfl V.heap.size (Eb 256) rfl rfl 173 (Eb 0) v (by rw[Et];kernel_rfl) (by simp[Et]) QU ?_)
 clear v J I;generalize(V.alloc (.cells zeroCells173 173)).setRow V.heap.size (Eb 256)=wT at m G N ⊢
 have Y:=zz (show more s Z=4294967295-(over Ir (4294967295-(s%4294967296).toNat) (Z.take Z.length):Nat)by rw[List.take_of_length_le Nr];rfl)
 have M:4294967295-(s%4294967296).toNat<4294967296:=Aa;have F:0<=s%4294967296/\s%4294967296<4294967296:=Aa;generalize y:4294967295-(s%4294967296).toNat=O at Y M
 have q:=zz (show(O:Int)=4294967295-s%4294967296 by omega)
 clear y;have L:=nJ (s%4294967296) F.1 F.2
 go_loop[6,15] (fun cc i=>∃k:Nat,k<=Z.length/\i=.int .i64 k/\cc=.int .u32 (over Ir O (Z.take k):Nat)) (fun _ i=>Z.length-(intOf i).toNat)
 .exact⟨0,Aa,rfl,by rw[L,←q.o];rfl⟩
 clear L;obtain⟨k,hk,rfl,rfl⟩:=hrel;have X:=Pn (Z.take k) O M (fun x C=>D.o x (List.mem_of_mem_take C))
 by_cases U:k<Z.length
 .have r:=zz (SF Ir O Z k U);have C:=D.o _ (List.getElem_mem U);obtain⟨b,o,u,rfl,l,z,T⟩:=N.at U;rw[LP Z k U]at z
  injection z with z
  subst z;generalize over Ir O (Z.take k)=d at X r ⊢;generalize Z[k]=x at C r T;have h1:=qp d x C;have hi:d%256 ^^^ x<256:=Nat.xor_lt_two_pow (n:=8) Aa Aa
  have p:=zz (show Ir d x=tab (d%256 ^^^ x) ^^^ (d/256)from rfl)
  generalize d%256 ^^^ x=i at h1 hi p;have H:=m.cell i;rw[LY 256 i hi,Ao hi]at H;have R:=Q8 8 i Aa;have h2:=pE (tab i) d R X
  change tab i<4294967296 at R
  generalize tab i=t at H h2 R p;go_wp2_with fail;exact⟨⟨k+1,Aa,BG,by rw[r.o,p.o]⟩,Ck⟩
 obtain rfl:k=Z.length:=Aa;generalize over Ir O (Z.take Z.length)=d at X Y ⊢;have j:=nJ (d:Int) Aa Aa;go_wp2_with fail
 go_ret
 exact⟨Ik (by rw[Y.o]),G⟩
end Sm
namespace Sm
open Go.ChangeShapes Go.WideShapes Go.ChangeAt Go.RowKit Mem SumLaw
def Qt(n:Int):bits .and .i64 n 1=n%2:=by
 have Y:(BitVec.ofInt 64 1).toNat=2 ^ 1-1:=El
 have Z:(BitVec.ofInt 64 n&&& BitVec.ofInt 64 1).toNat=(n%((2 ^ 64:Nat):Int)).toNat%2 ^ 1:=by
  rw[BitVec.toNat_and,BitVec.toNat_ofInt,Y,Nat.and_two_pow_sub_one_eq_mod]
 show IntKind.i64.wrap ((BitVec.ofInt 64 n&&& BitVec.ofInt 64 1).toNat:Nat)=n%2
 rw[Z,IntKind.wrap_i64];omega
def N7:Array Value:=#[.int .i64 0,.int .i64 0,.int .i64 0,.int .i64 0,.int .i64 0,.int .i64 0,.int .i64 0,.int .i64 0,.int .i64 0,.int .i64 0,.int .i64 0,.int .i64 0,.int .i64 0,.int .i64 0,.int .i64 0,.int .i64 0,.int .i64 0,.int .i64 0,.int .i64 0,.int .i64 0,.int .i64 0,.int .i64 0,.int .i64 0,.int .i64 0,.int .i64 0,.int .i64 0,.int .i64 0,.int .i64 0,.int .i64 0,.int .i64 0,.int .i64 0,.int .i64 0]
def Ut(c:Nat):Array Value:=BH .i64 32 fun i=>(bit c i:Int)
def jW(a b:Nat)(Z:a<=1)(hb:b<=1):bits .xor .i64 (a:Int) (b:Int)=(((a+b)%2:Nat):Int):=by
 obtain rfl|rfl:a=0\/a=1:=Aa
 all_goals (obtain rfl|rfl:b=0\/b=1:=by omega)
 all_goals decide
def PD(c:Nat):List Value:=(List.range 32).map fun i=>Value.int .i64 (bit c i:Int)
def Jc(c:Nat):List Value:=(List.range 31).map fun i=>Value.int .i64 (bit c (i+1):Int)
def moved(c:Nat)(Y:c<4294967296):(splice (PD c) 0 (Jc c)).toArray.setIfInBounds 31 (.int .i64 0)=Ut (c/2):=by
 apply Array.ext_getElem?
 intro i
 have Z:(splice (PD c) 0 (Jc c)).length=32:=by
  rw[length_splice _ _ _ (by simp only[PD,Jc,List.length_map,List.length_range];omega)];simp only[PD,List.length_map,List.length_range]
 rw[Array.getElem?_setIfInBounds,List.size_toArray,Z,List.getElem?_toArray]
 by_cases hi:i<32
 .rw[show(Ut (c/2))[i]?=some (.int .i64 (bit (c/2) i:Int))from Cu _ _ _ i hi]
  by_cases e:31=i
  .subst e;rw[Ao rfl,Ao Aa,dO (c/2) 31 Aa];rfl
  rw[Aj e,bU];simp only[splice,List.take_zero,List.nil_append];rw[List.getElem?_append_left (by simp[Jc];omega)]
  simp[Jc,show i<31 by omega]
 rw[Aj Aa,List.getElem?_eq_none Aa];exact(NM _ _ _ i Aa).symm
def Xe(c:Nat):∃v,(splice (PD c) 0 (Jc c)).toArray[31]?=some v:=by
 have Z:(splice (PD c) 0 (Jc c)).length=32:=by
  rw[length_splice _ _ _ (by simp only[PD,Jc,List.length_map,List.length_range];omega)];simp only[PD,List.length_map,List.length_range]
 rw[List.getElem?_toArray];exact⟨_,List.getElem?_eq_getElem Aa⟩
def ML(x j:Nat):((x/2 ^ j:Nat):Int)=(x:Int)/2 ^ j:=by rw[Int.natCast_ediv,Int.natCast_pow];rfl
def iW(c:Nat):∀v∈Jc c,v.oneCell'=true:=by
 intro v Z;obtain⟨i,_,rfl⟩:=List.mem_map.1 Z;rfl
def kH(d i:Nat)(hi:i<32):bits .xor .i64 (bit d i:Int) ((3988292384:Int)/2 ^ i%2)=(bit (d ^^^ 3988292384) i:Int):=by
 have e:(3988292384:Int)/2 ^ i%2=((bit 3988292384 i:Nat):Int):=by unfold bit;rw[Int.natCast_emod,Int.natCast_ediv,Int.natCast_pow];rfl
 rw[e,jW _ _ (PW _ _) (PW _ _),lM]
def VQ(s:Int)(A:Option Addr)(c:Nat)(X:List Nat)(B:Nat)(w:World)(hB:B<=w.heap.size)(hs: -9223372036854775808<=s/\s<=9223372036854775807)(hl:X.length<=9223372036854775807)(qQ:∀x∈X,x<256)(hr:Rd w B 1 A X.length (Br X)):
  Calls prog 118 #[.int .i64 s,.slice A X.length c] w fun e w'=>e=.returned (.int .i64 (more s X))/\Below w.heap.size w w':=by
 have C:=zz qQ;clear qQ;have hz:N7=BH .i64 32 (fun _=>0):=Ap
 have I:Ae (w.alloc (.cells N7 179)) w.heap.size 179 (BH .i64 32 (fun _=>0)):=by rw[hz];exact Ae.new rfl
 have Z:Below w.heap.size w (w.alloc (.cells N7 179)):=DC;have Y:=hr.alloc hB (.cells N7 179);clear hz hr
 unfold N7 at I Z Y
 have z:4294967295-(s%4294967296).toNat<4294967296:=Aa;have HG:=zz (fun k (hk:k<32)=>bF s k hk)
 have M:=zz (show more s X=4294967295-(over Ir (4294967295-(s%4294967296).toNat) (X.take X.length):Nat)by rw[List.take_of_length_le Nr];rfl)
 generalize 4294967295-(s%4294967296).toNat=J at z HG M
 go_in
 go_wp2_with fail
 go_loopw[15] (fun i wr=>∃k:Nat,k<=32/\i=.int .i64 k/\Ae wr w.heap.size 179 (BH .i64 32 fun i=>if i<k then(bit J i:Int)else 0)/\Below w.heap.size w wr/\Rd wr B 1 A X.length (Br X)) (fun i _=>32-(intOf i).toNat)
 .exact⟨0,Aa,rfl,by simpa using I,Z,Y⟩
 clear I Z Y;obtain⟨k,hk,rfl,I,Z,Y⟩:=hrel
 by_cases W:k<32
 .have hg:=HG.o k W;have h1:=Qt (s/2 ^ k);have c1:=I.cell k;have f1:=I.thaw k;rw[Cu _ _ _ _ W,Aj Aa]at c1;have rA:0<=s/2 ^ k%2/\s/2 ^ k%2<=1:=Aa;have rD:=zz hg;clear hg;go_wp2_with fail;refine⟨⟨k+1,Aa,BG,?_,Z.setCell Nr _,Y.setCell hB _⟩,Ck⟩;have:=I.set k (.int .i64 (1-s/2 ^ k%2))
  rwa[Es (g:=fun i=>if i<k+1 then(bit J i:Int)else 0) (fun i hi=>by
   by_cases e:i=k
   . subst e;rw[Ao rfl,Ao Aa];exact HG.o _ W
   rw[Aj e]
   by_cases h:i<k
   . rw[Ao h,Ao Aa]
   rw[Aj h,Aj Aa])]at this
 obtain rfl:k=32:=Aa
 rw[show((32:Nat):Int)=32 from rfl]
 clear W
 have V:Ae wr w.heap.size 179 (Ut J):=by
  rwa[EA (g:=fun i=>(bit J i:Int)) (fun i hi=>by rw[Ao hi])]at I
 clear I HG;go_wp2_with fail
 go_loopw[29] (fun i wr=>∃k:Nat,k<=X.length/\i=.int .i64 k/\Ae wr w.heap.size 179 (Ut (over Ir J (X.take k)))/\Below w.heap.size w wr/\Rd wr B 1 A X.length (Br X)) (fun i _=>X.length-(intOf i).toNat)
 .exact⟨0,Aa,rfl,V,Z,Y⟩
 clear V Z Y;obtain⟨k,hk,rfl,V,Z,Y⟩:=hrel;have U:=Pn (X.take k) J z (fun x hx=>C.o x (List.mem_of_mem_take hx))
 by_cases W:k<X.length
 .have HS:=zz (SF Ir J X k W);have hx:=C.o _ (List.getElem_mem W);have N:=zz Y;obtain⟨b,o,u,rfl,rE,hu,R⟩:=Y.at W;rw[LP X k W]at hu
  injection hu with hu
  subst hu;generalize over Ir J (X.take k)=d at U HS V;generalize X[k]=x at hx HS R;have HB:=zz (Xi d x hx);clear Y;go_wp2_with fail
  go_loopw[10] (fun i wr=>∃j:Nat,j<=8/\i=.int .i64 j/\Ae wr w.heap.size 179 (Ut (KJ d x j))/\Below w.heap.size w wr/\Rd wr B 1 (some ⟨b,o,none⟩) X.length (Br X)) (fun i _=>8-(intOf i).toNat)
  .exact⟨0,Aa,rfl,V,Z,N.o⟩
  clear V Z R N;obtain⟨j,hj,rfl,V,Z,Y⟩:=hrel;have H:=gL d x j U
  by_cases rC:j<8
  .have HR:=zz (show KJ d x (j+1)=RY (KJ d x j) x j from rfl)
   generalize KJ d x j=y at H HR V;have qR:=V.cell 0
   rw[show(Ut y)[0]?=some (.int .i64 (bit y 0:Int))from Cu _ _ _ 0 Aa]at qR
   have h1:=Qt ((x:Int)/2 ^ j);have h2:=jW (bit y 0) (x/2 ^ j%2) (PW _ _) Aa
   rw[lI,show((x/2 ^ j%2:Nat):Int)=(x:Int)/2 ^ j%2 by rw[Int.natCast_emod,ML];rfl]at h2
   have qY:=zz (moved y H);have N:=zz Y;clear Y;go_wp2_with fail
   go_still_tail 2,Ap
   refine wpList_copy_splice rfl (.tmp 46) (.tmp 47) 63 63 rfl 3 underlying63 Ap _ _ _ _ _ _ rfl rfl w.heap.size 0 (PD y) 179 (by exact V) (Jc y) (by simp only[Jc,List.length_map,List.length_range];rfl) (fun _=>⟨rfl,_,rfl,fun i v hv=>?_⟩) (by simp only[Jc,PD,List.length_map,List.length_range];omega) (iW y) w.heap.size w Z.drew Nr ?_
   .have hi:i<31:=by have:=(List.getElem?_eq_some_iff.1 hv).1;simpa[Jc] using this
    have ru:v=.int .i64 (bit y (i+1):Int):=by simp[Jc,hi]at hv;exact hv.symm
    have:=V.cell (1+i)
    rw[show(Ut y)[1+i]?=some (.int .i64 (bit y (1+i):Int))from Cu _ _ _ _ Aa]at this
    rw[ru,Nat.add_comm i 1]
    rw[show((⟨w.heap.size,0+1,none⟩:Addr).add i)=⟨w.heap.size,1+i,none⟩by unfold Addr.add;split<;>simp_all]
    exact this
   intro f r D;have b4:Ae f w.heap.size 179 (splice (PD y) 0 (Jc y)).toArray:=r.o
   have l:∀b' G,b'<B-> f.cell? ⟨b',G,none⟩= wr.cell? ⟨b',G,none⟩:=fun b' G h=>by rw[BF D b' G Aa,BF Z b' G Aa]
   have F:Rd f B 1 (some ⟨b,o,none⟩) X.length (Br X):=N.o.keep (fun b' G h=>(l b' G h));have qZ:=zz F
   have qV:∃v,f.cell? ⟨w.heap.size,31,none⟩=some v:=by
    rw[b4.cell 31];exact Xe y
   obtain⟨rJ,qV⟩:=qV;have rH:=b4.thaw 31;have L:=b4.set 31 (.int .i64 0);rw[qY.o]at L;have T:=D.setCell (p:=⟨w.heap.size,31,none⟩) Nr (.int .i64 0);have O:=zz (F.setCell (p:=⟨w.heap.size,31,none⟩) hB (.int .i64 0));clear l r b4 F qZ qR N V Z
   by_cases ho:((y:Int)+(x:Int)/2 ^ j)%2=1
   .have qX:(((y:Int)+(x:Int)/2 ^ j)%2==1)=true:=by simpa using ho
    have HT:=zz (show RY y x j=(y/2) ^^^ 3988292384 from by unfold RY;rw[Ao (by have:=ML x j;omega)])
    clear ho;go_wp2_with fail
    generalize f.setCell ⟨w.heap.size,31,none⟩ (.int .i64 0)=w5 at*
    go_loopw[52] (fun i wr=>∃n:Nat,n<=32/\i=.int .i64 n/\Ae wr w.heap.size 179 (BH .i64 32 fun i=>if i<n then(bit (y/2 ^^^ 3988292384) i:Int)else(bit (y/2) i:Int))/\Below w.heap.size w wr/\Rd wr B 1 (some ⟨b,o,none⟩) X.length (Br X)) (fun i _=>32-(intOf i).toNat)
    .exact⟨0,Aa,rfl,by simpa[Ut] using L,T,O.o⟩
    clear L T O;obtain⟨n,hn,rfl,L,T,E⟩:=hrel
    by_cases qU:n<32
    .have cn:=L.cell n;have fn:=L.thaw n;rw[Cu _ _ _ _ qU,Aj Aa]at cn;have h1:=Qt ((3988292384:Int)/2 ^ n);have h2:=kH (y/2) n qU;have O:=zz E;clear E;go_wp2_with fail;refine⟨⟨n+1,Aa,BG,?_,T.setCell Nr _,O.o.setCell hB _⟩,Ck⟩;have:=L.set n (.int .i64 (bit (y/2 ^^^ 3988292384) n:Int))
     rwa[Es (g:=fun i=>if i<n+1 then(bit (y/2 ^^^ 3988292384) i:Int)else(bit (y/2) i:Int)) (fun i hi=>by
      by_cases e:i=n
      . subst e;rw[Ao rfl,Ao Aa]
      rw[Aj e]
      by_cases h:i<n
      . rw[Ao h,Ao Aa]
      rw[Aj h,Aj Aa])]at this
    obtain rfl:n=32:=Aa;go_wp2_with fail;refine⟨⟨j+1,Aa,BG,?_,T,E⟩,Ck⟩;rw[HR.o,HT.o]
    rwa[EA (g:=fun i=>(bit (y/2 ^^^ 3988292384) i:Int)) (fun i hi=>by rw[Ao hi])]at L
   have qX:(((y:Int)+(x:Int)/2 ^ j)%2==1)=false:=by simpa using ho
   have HT:=zz (show RY y x j=y/2 from by unfold RY;rw[Aj (by have:=ML x j;omega)])
   clear ho;go_wp2_with fail;exact⟨⟨j+1,Aa,BG,by rw[HR.o,HT.o];exact L,T,O.o⟩,Ck⟩
  obtain rfl:j=8:=Aa;rw[HB.o]at V;go_wp2_with fail;exact⟨⟨k+1,Aa,BG,by rw[HS.o];exact V,Z,Y⟩,Ck⟩
 obtain rfl:k=X.length:=Aa;have HK:=zz (back_eq _ U);generalize over Ir J (X.take X.length)=d at U HK M V;clear Y W;go_wp2_with fail
 go_loop[13,14] (fun n i=>∃q:Nat,q<=32/\i=.int .i64 (31-(q:Int))/\n=.int .i64 (back d q)) (fun _ i=>(intOf i+1).toNat)
 .exact⟨0,Aa,BG,rfl⟩
 obtain⟨q,hq,rfl,rfl⟩:=hrel;have rq:=Xg d q hq
 by_cases rG:q<32
 .have cq:=V.cell (31-q)
  rw[show(Ut d)[31-q]?=some (.int .i64 (bit d (31-q):Int))from Cu _ _ _ _ Aa]at cq
  have qW:=PW d (31-q);have rF:(31-(q:Int)).toNat=31-q:=Aa
  have HQ:=zz (show back d (q+1)=2*back d q+1-bit d (31-q)from rfl)
  generalize back d q=m at rq HQ ⊢;generalize bit d (31-q)=t at qW HQ cq;go_wp2_with fail;exact⟨⟨q+1,Aa,BG,by rw[HQ.o]⟩,Ck⟩
 have HQ:=zz (show q=32 by omega)
 go_wp2_with fail
 go_ret
 exact⟨Ik (by rw[M.o,HQ.o,HK.o]),Z⟩
end Sm
namespace Sm
open Go.ChangeShapes Go.WideShapes Go.ChangeAt Go.RowKit Mem SumLaw
def LW(A:Option Addr)(c:Nat)(Z:List Nat)(B:Nat)(w:World)(T:B<=w.heap.size)(O:Z.length<=9223372036854775807)(Y:∀x∈Z,x<256)(W:Rd w B 1 A Z.length (Br Z)):
  Calls prog 72 #[.slice A Z.length c] w fun e w'=>e=.returned (.int .i64 (more 0 Z))/\Below w.heap.size w w':=by
 have R:=zz W;have U:=zz Y;clear W Y
 go_in
 go_wp2_with fail;refine(dH 0 A c Z B _ T Aa O U.o R.o).mono ?_;rintro e N ⟨rfl,hb⟩;generalize X:more 0 Z=m;have V:=zz X;clear X;go_wp2_with fail
 go_ret
 exact⟨by rw[V.o];rfl,hb⟩
def Qq(A:Option Addr)(c:Nat)(Z:List Nat)(B:Nat)(w:World)(T:B<=w.heap.size)(O:Z.length<=9223372036854775807)(Y:∀x∈Z,x<256)(W:Rd w B 1 A Z.length (Br Z)):
  Calls prog 90 #[.slice A Z.length c] w fun e w'=>e=.returned (.int .i64 (more 0 Z))/\Below w.heap.size w w':=by
 have R:=zz W;have U:=zz Y;clear W Y
 go_in
 go_wp2_with fail;refine(VQ 0 A c Z B _ T Aa O U.o R.o).mono ?_;rintro e N ⟨rfl,hb⟩;generalize X:more 0 Z=m;have V:=zz X;clear X;go_wp2_with fail
 go_ret
 exact⟨by rw[V.o];rfl,hb⟩
end Sm
namespace Sm
open Go.ChangeShapes Go.WideShapes Go.ChangeAt Go.RowKit Mem SumLaw
def FU(s k:Nat):List Nat:=(List.range k).map fun i=>s/256 ^ i%256
def sealed(Z:List Nat):List Nat:=Z++FU (more 0 Z).toNat 4
def UI(s k:Nat):FU s (k+1)=FU s k++[s/256 ^ k%256]:=by
 simp[FU,List.range_succ]
def KY(s:Nat):FU s 4=[s%256,s/256%256,s/65536%256,s/16777216%256]:=by simp[FU,List.range_succ]
def Rs(s k:Nat):(FU s k).length=k:=by simp[FU]
def Q5(Z:List Nat)(h:∀x∈Z,x<256):∃s:Nat,more 0 Z=(s:Int)/\s<4294967296:=by
 have:=Pn Z (4294967295-((0:Int)%4294967296).toNat) Aa h
 unfold more
 exact⟨4294967295-over Ir (4294967295-((0:Int)%4294967296).toNat) Z,Aa,Aa⟩
end Sm
namespace Sm
open Go.ChangeShapes Go.WideShapes Go.ChangeAt Go.RowKit Mem SumLaw
def OZ(A:Option Addr)(c:Nat)(Y:List Nat)(B:Nat)(w:World)(F:B<=w.heap.size)(E:A=none->c=0)(v:Y.length<=c)(p:Y.length<=140737488351232)(O:∀x∈Y,x<256)(G:Rd w B 1 A Y.length (Br Y)):
  Calls prog 80 #[.slice A Y.length c] w fun e w'=>PU w w' (sealed Y) e:=by
 have D:=zz G;have H:=zz O;clear G O
 go_in
 go_wp2_with fail;refine(Qq A c Y B _ F Aa H.o D.o).mono ?_;rintro e n ⟨rfl,hb⟩;have L:=zz (D.o.below (hb.mono F));obtain⟨s,J,y⟩:=Q5 Y H.o;have u:=zz J;rw[J];clear J;have U:=hb.size
 have z:IntKind.u8.wrap ((s:Int)/16777216)=(s:Int)/16777216:=by simp[IntKind.wrap,IntKind.bits,IntKind.signed];omega
 go_wp2_with(first
  |(refine Aq _ rfl (.const (.slice none 0 0)) (.tmp 6) 74 rfl Dm rfl (World.ownsRow_nil _ w.heap.size _ _) rfl (fun h=>⟨by have:=E h;omega,E h⟩) L.o (EY Y) GX Aa U ?_;intro m l k M Z V;simp only[List.nil_append,Nat.zero_add]at Z)
  |(refine Aq _ rfl (.tmp 7) (.tmp 22) 74 rfl Dm rfl (Z.alloc _) rfl Bq (UR _ _ _ _) GR (by unfold maxLen;simp;omega) Ec (Nat.le_trans (Nat.le_trans U V.size) Bq) ?_;intro r t q C W R))
 have T:=Bh (Below.refl w.heap.size w) Nr hb;have X:=Below.grown T V U (by intro g e;cases e);have I:=Below.grown (X.alloc X.size _) R (by have:=X.size;simp;omega) (fun g e=>(Z.lt g e).1)
 have N:=zz (show sealed Y=Y++[s%256,s/256%256,s/65536%256,s/16777216]by unfold sealed;rw[u.o,Int.toNat_natCast,KY,Nat.mod_eq_of_lt (show s/16777216<256 by omega)])
 clear V Z M R T X z;go_wp2_with fail
 go_ret
 refine⟨r,t,by rw[N.o,List.length_append];rfl,?_,I⟩;rw[N.o,Ed,List.length_append];exact W
end Sm
namespace Sm
open Go.ChangeShapes Go.WideShapes Go.ChangeAt Go.RowKit Mem
def Oa(Z:List Nat):ByteArray:=strOfNums (Z.map fun(x:Nat)=>(x:Int))
def Y0{w:World}{B:Nat}{A:Option Addr}{n c:Nat}{Z:List Nat}(V:A=none->n=0)(W:n=Z.length)(h:Rd w B 1 A n (Br Z)):
  (convert 74 9 (.slice A n c)).run prog w=.ok (.string (Oa Z)) w:=by
 subst W
 by_cases X:Z.length=0
 .have hb:Z=[]:=List.eq_nil_of_length_eq_zero X;subst hb
  cases A with
  |none=>exact run_convert_bytes_nil w _ _ underlying74 underlying5 _ _ _ underlying9
  |some a=>
   obtain⟨b,o,s⟩:=a
   cases s with
   |none=>exact run_convert_bytes_arg w _ _ underlying74 underlying5 b o 0 c [] rfl (fun i hi=>absurd hi Aa) _ underlying9
   |some s=>
    rw[run_convert_bytes_string w _ _ _ _ _ _ underlying74 underlying5 underlying9];have:=run_bytesToString (P:=prog) w ⟨b,o,some s⟩ 0 c [] (by simp[loadCells,loadCellsFrom]);exact this
 obtain⟨b,o,rfl,hb,Y⟩:=h.2 Aa;refine run_convert_bytes_arg w _ _ underlying74 underlying5 b o Z.length c (Z.map fun(x:Nat)=>(x:Int)) Bq (fun i hi=>?_) _ underlying9;rw[Y i _ (LP Z i hi)]
 simp[List.getD,hi]
def gG{a b:List Nat}(W:∀x∈a,x<256)(hb:∀x∈b,x<256)(h:Oa a=Oa b):a=b:=by
 have Z:∀l:List Nat,(∀x∈l,x<256)->(Oa l).data.toList.map UInt8.toNat=l:=fun l X=>by
  unfold Oa
  rw[strOfNums_data,List.map_map,List.map_map]
  conv=>rhs;rw[←List.map_id l]
  refine List.map_congr_left fun x Y=>?_;have:=X x Y
  simp
  omega
 rw[←Z a W,←Z b hb,h]
def ownsRow_below{w w':World}{base:Nat}{e:TypeId}{size:Nat}{v:Value}{n:Nat}{xs:List Value}(h:w.ownsRow base e size v n xs)(hb:Below w.heap.size w w'):w'.ownsRow base e size v n xs:=
 h.kept (row:=none) ⟨hb.os,hb.tape,hb.output,hb.size,fun g Z _=>hb.block g Z⟩ (by cases v.ownBlock<;>simp)
def Kh{w:World}{base:Nat}{e:TypeId}{size:Nat}{A:Option Addr}{n c:Nat}{X:List Value}(h:w.ownsRow base e size (.slice A n c) n X):A=none->n=0/\c=0:=by
 obtain⟨U,R,Y,_,_,Z,_⟩:=Ip h
 injection Y with W T V
 subst W;subst V;exact Z
def BU{w:World}{base:Nat}{e:TypeId}{size:Nat}{A:Option Addr}{n c:Nat}{X:List Value}(h:w.ownsRow base e size (.slice A n c) n X):n<=c:=by
 obtain⟨T,R,Z,Y,_,U,_⟩:=Ip h
 injection Z with W Y V
 subst W;subst V
 assumption
def dZ{w:World}{base:Nat}{e:TypeId}{A:Option Addr}{n c:Nat}{Z:List Nat}(Y:n=Z.length)(h:w.ownsRow base e 1 (.slice A n c) n (Br Z)):
  (convert 74 9 (.slice A n c)).run prog w=.ok (.string (Oa Z)) w:=Y0 (fun e=>(Kh h e).1) Y (Rd.Bu h)
end Sm
namespace Rg
section
variable {P : Program} {ops : Array Oper} {Q : Exit -> Act -> World -> Prop} {md : Region.Mode} {S S' : World -> Prop}
def Y9(X:∀w,S' w->S w):∀(Z:Nat) (Y:Array Bool) (a:Act) (w:World),wpAnyH P md ops Q S' Z Y a w->wpAnyH P md ops Q S Z Y a w
 |0,_,_,_,h=>h
 |Z+1,_,_,_,h=>⟨h.1,fun i hi=>wpOp_mono (fun V w' W=>⟨X w' W.1,Y9 X Z _ V w' W.2⟩) (h.2 i hi)⟩
def pin{Y:Nat}{Z:Array Bool}{a:Act}{w:World}(X:S w)(h:w=w->wpAnyH P md ops Q (fun w'=>w'=w) Y Z a w):wpAnyH P md ops Q S Y Z a w:=
 Y9 (fun w' e=>by subst e;exact X) Y Z a w (h rfl)
end
end Rg
end Go.Proofs.YtjobajeggllmiaaGreat
