import Derived.Test.YtjobajeggllmiaaGreatPc0
import Derived.Test.YtjobajeggllmiaaGreatPc9
set_option linter.all false
set_option maxHeartbeats 100000000
set_option maxRecDepth 100000
namespace Go.Proofs.YtjobajeggllmiaaGreat
open Ms Rg _root_.Go.Proofs.Tryz
namespace Nd
open Go.RowKit Mem Rws Flat
def DX(f:Nat->Value)(Z:Nat->Option Int)(k i:Nat):Value:=if 51<=i/\i<51+k then(match Z (i-51)with|some z=>.int .i64 z|none=>f i)else f i
def P6(f:Nat->Value)(Z:Nat->Option Int)(S:Value):row 74 (Ab (DX f Z 0) S)=row 74 (Ab f S):=AA fun i hi=>by
 unfold Ab DX
 rw[Aj (show ¬(51<=i/\i<51+0)by omega)]
def QS(f:Nat->Value)(Z:Nat->Option Int)(k:Nat)(S:Value)(h:Z k=none):row 74 (Ab (DX f Z (k+1)) S)=row 74 (Ab (DX f Z k) S):=AA fun i hi=>by
 unfold Ab DX
 by_cases e:i=51+k
 .subst e
  rw[Ao (show 51<=51+k/\51+k<51+(k+1)by omega),Aj (show ¬(51<=51+k/\51+k<51+k)by omega),Nat.add_sub_cancel_left,h]
 by_cases Y:51<=i/\i<51+k
 . rw[Ao Y,Ao (show 51<=i/\i<51+(k+1)by omega)]
 rw[Aj Y,Aj (show ¬(51<=i/\i<51+(k+1))by omega)]
def Q6(f:Nat->Value)(Z:Nat->Option Int)(k:Nat)(X:k<4)(S:Value){z:Int}(h:Z k=some z):(row 74 (Ab (DX f Z k) S)).setIfInBounds (51+k) (.int .i64 z)=row 74 (Ab (DX f Z (k+1)) S):=by
 rw[Di];refine AA fun i hi=>?_
 by_cases e:i=51+k
 .subst e;rw[Ao rfl]
  unfold Ab DX
  rw[Aj (show ¬(51+k=73)by omega),Ao (show 51<=51+k/\51+k<51+(k+1)by omega),Nat.add_sub_cancel_left,h]
 rw[Aj e]
 unfold Ab DX
 by_cases Y:51<=i/\i<51+k
 . rw[Ao Y,Ao (show 51<=i/\i<51+(k+1)by omega)]
 rw[Aj Y,Aj (show ¬(51<=i/\i<51+(k+1))by omega)]
def IX(f:Nat->Value)(Z:Nat->Option Int)(k i:Nat)(h:i<51):DX f Z k i=f i:=Aj Aa
def Pt{f:Nat->Value}(Y:∀i,i<73->C9 (Ar i) (f i))(X:Nat->Option Int)(k:Nat)(W:k<=4):∀i,i<73->C9 (Ar i) (DX f X k i):=fun i hi=>by
 unfold DX
 by_cases Z:51<=i/\i<51+k
 .rw[Ao Z]
  have e:Ar i=true:=by
   obtain⟨a,b⟩:=Z
   unfold Ar
   simp
   omega
  cases X (i-51)with
  |some z=>rw[e];exact⟨z,rfl⟩
  |none=>exact Y i hi
 rw[Aj Z];exact Y i hi
def iv:Value->Int
 | .int _ n=>n
 |_=>0
def hvs(f:Nat->Value):List Int:=[iv (f 51),iv (f 52),iv (f 53),iv (f 54)]
def KP{v:Value}(h:C9 true v):v=.int .i64 (iv v):=by obtain⟨n,rfl⟩:=h;rfl
def oO{f:Nat->Value}(Z:∀i,i<73->C9 (Ar i) (f i)){j:Nat}{u:Value}(h:(Ms.AQ (hvs f))[j]?=some u):j<4/\f (51+j)=u:=by
 have U:j<4:=by have:=(List.getElem?_eq_some_iff.1 h).1;simpa[Ms.AQ,hvs] using this
 have W:=KP (Z 51 Aa);have Y:=KP (Z 52 Aa);have V:=KP (Z 53 Aa);have X:=KP (Z 54 Aa);refine⟨U,?_⟩;obtain rfl|rfl|rfl|rfl:j=0\/j=1\/j=2\/j=3:=Aa
 . rw[W];simpa[Ms.AQ,hvs] using h
 . rw[Y];simpa[Ms.AQ,hvs] using h
 . rw[V];simpa[Ms.AQ,hvs] using h
 rw[X];simpa[Ms.AQ,hvs] using h
def U8{w:World}{g:Nat}{t:TypeId}{f:Nat->Value}(Z:∀i,i<73->C9 (Ar i) (f i)){S:Value}(h:Ae w g t (row 74 (Ab f S))):Rd w (g+1) 1 (some ⟨g,51,none⟩) 4 (Ms.AQ (hvs f)):=
 ⟨rfl,fun _=>⟨g,51,rfl,Aa,fun j u Y=>by
  obtain⟨X,e⟩:=oO Z Y;rw[h.cell,Ah Aa]
  show some (Ab f S (51+j))=some u
  unfold Ab
  rw[Aj (show ¬(51+j=73)by omega),e]⟩⟩
def OQ(id Y:Int)(Z:List Cw)(i:Nat):Option Int:=(Be id Y 3 1 (i:Int) Z).map fun m=>m.zs.getD 0 0
def IE{id X Z:Int}{many:Nat}{W:Int}{Y:List Cw}{m:Cw}(h:Be id X Z many W Y=some m):m.zs.length=many:=by
 have:=List.find?_some h
 unfold Ms.fit at this
 simp only[Bool.and_eq_true,beq_iff_eq]at this;have:=this.2;omega
end Nd
namespace Nd
open Go.RowKit Mem Rws Flat
def bv:Value->Bool
 | .bool b=>b
 |_=>false
def mZ{v:Value}(h:C9 false v):v=.bool (bv v):=by obtain⟨n,rfl⟩:=h;rfl
def Qw(b:Bool):Int:=if b then 1 else 0
def kr(f:Nat->Value)(a:Nat):List Int:=[iv (f (6+(a*7+0))),iv (f (6+(a*7+1))),iv (f (6+(a*7+2))),iv (f (6+(a*7+3))),iv (f (6+(a*7+4))),Qw (bv (f (6+(a*7+5)))),iv (f (6+(a*7+6)))]
def GY(f:Nat->Value):Nat->List Int
 |0=>[]
 |a+1=>GY f a++kr f a
def Sr(f:Nat->Value):∀k,(GY f k).length=k*7
 |0=>rfl
 |k+1=>by
  show(GY f k++kr f k).length=_
  rw[List.length_append,Sr f k]
  show k*7+7=_
  omega
def SH(f:Nat->Value):Nat->Nat
 |0=>0
 |k+1=>SH f k+if bv (f (27+k))then 2 ^ k else 0
def XI(f:Nat->Value):∀k,SH f k<2 ^ k
 |0=>Nat.zero_lt_one
 |k+1=>by
  have h:=XI f k
  unfold SH
  rw[Nat.pow_succ]
  split<;>omega
def pJ:∀k,k<4->∀I:Nat,I<2 ^ k->bits .or .i64 (I:Int) ((2 ^ k:Nat):Int)=((I+2 ^ k:Nat):Int):=of_decide_eq_true Ap
def Fq(o:Nat)(f:Nat->Value):Nat->Int
 |0=>0
 |k+1=>IntKind.i64.wrap (IntKind.i64.wrap (Fq o f k*8)+iv (f (o+k)))
def Fy(f:Nat->Value):List Int:=GY f 3++[((SH f 4:Nat):Int),Fq 31 f 4,Fq 35 f 4]
def Ep(f:Nat->Value):(Fy f).length=24:=by
 unfold Fy
 rw[List.length_append,Sr];rfl
def qo(F:Nat->Value):row 7 F=#[F 0,F 1,F 2,F 3,F 4,F 5,F 6]:=rfl
def K8(F:Nat->Value)(k:Nat)(Z:k<3)(w:World):(Instr.index 26 (.agg (row 21 F)) (.int .i64 (k:Int))).run prog w=.ok (.agg (row 7 fun j=>F (k*7+j))) w:=by
 obtain rfl|rfl|rfl:k=0\/k=1\/k=2:=Aa
 all_goals kernel_rfl
def Ki{f:Nat->Value}(Z:∀i,i<73->C9 (Ar i) (f i))(k:Nat)(Y:k<3):∃a b c d e m:Int,∃t:Bool,(row 7 fun j=>f (6+(k*7+j)))=#[.int .i64 a,.int .i64 b,.int .i64 c,.int .i64 d,.int .i64 e,.bool t,.int .i64 m]/\kr f k=[a,b,c,d,e,Qw t,m]:=by
 have hi:∀j,j<7->j≠5->f (6+(k*7+j))=.int .i64 (iv (f (6+(k*7+j)))):=fun j W X=>KP (by
  have h:=Z (6+(k*7+j)) Aa
  have e:Ar (6+(k*7+j))=true:=by
   obtain rfl|rfl|rfl:k=0\/k=1\/k=2:=Aa
   all_goals (unfold Ar;simp;omega)
  rw[e]at h;exact h)
 have hb:f (6+(k*7+5))=.bool (bv (f (6+(k*7+5)))):=mZ (by
  have h:=Z (6+(k*7+5)) Aa
  have e:Ar (6+(k*7+5))=false:=by
   obtain rfl|rfl|rfl:k=0\/k=1\/k=2:=Aa
   all_goals rfl
  rw[e]at h;exact h)
 refine⟨_,_,_,_,_,_,_,?_,rfl⟩;rw[qo,←hi 0 Aa Aa,←hi 1 Aa Aa,←hi 2 Aa Aa,←hi 3 Aa Aa,←hi 4 Aa Aa,←hi 6 Aa Aa,←hb]
def JU{f:Nat->Value}(Z:∀i,i<73->C9 (Ar i) (f i))(i:Nat)(X:31<=i)(Y:i<39):f i=.int .i64 (iv (f i)):=KP (by
  have h:=Z i Aa
  have e:Ar i=true:=by unfold Ar;simp;omega
  rw[e]at h;exact h)
def Kb{f:Nat->Value}(Z:∀i,i<73->C9 (Ar i) (f i))(i:Nat)(X:27<=i)(Y:i<31):f i=.bool (bv (f i)):=mZ (by
  have h:=Z i Aa
  have e:Ar i=false:=by
   obtain rfl|rfl|rfl|rfl:i=27\/i=28\/i=29\/i=30:=Aa
   all_goals rfl
  rw[e]at h;exact h)
def jY(w w':World)(f:Nat->Value)(e:Ending):Prop:=∃A c,e=.returned (.slice A 24 c)/\w'.ownsRow w.heap.size 3 1 (.slice A 24 c) 24 (Ms.AQ (Fy f))/\Below w.heap.size w w'
def Qn(f:Nat->Value)(hf:∀i,i<73->C9 (Ar i) (f i))(S:Value)(w:World):
  Calls prog 47 #[.agg (row 74 (Ab f S))] w fun e w'=>jY w w' f e:=by
 have qQ:∀i,i<73->(row 74 (Ab f S))[i]?=some (f i):=fun i hi=>by rw[Ah Aa];unfold Ab;rw[Aj Aa]
 have v:(row 21 fun j=>Ab f S (6+j))=row 21 fun j=>f (6+j):=AA fun j hj=>by unfold Ab;rw[Aj Aa]
 have HC:=zz qQ;have HM:=zz v;have HF:=zz hf;clear qQ v hf
 go_in
 go_upto_region 2 with fail
 have U:=zz (show Ae (w.alloc (.cells (row 74 (Ab f S)) 37)) w.heap.size 37 (row 74 (Ab f S))from Ae.fresh _ _ _)
 have C:=zz ((Below.refl w.heap.size w).alloc Nr (.cells (row 74 (Ab f S)) 37))
 generalize(w.alloc (.cells (row 74 (Ab f S)) 37))=w1 at*
 obtain⟨L,H⟩:=AJ (w.heap.size);have q:=zz H;rw[H]at U ⊢
 have C:=zz (show Below L w w1 from by have h:=C.o;rw[q.o]at h;exact h)
 clear H
 go_wp2_with(refine Cb rfl 26 _ rfl L 6 21 rfl U.o Aa _ underlying26 rfl Ap ?_)
 rw[HM.o];have rH:=zz (fun(k:Nat) (hk:k<3) (w:World)=>K8 (fun j=>f (6+j)) k hk w)
 generalize(row 21 fun j=>f (6+j))=rP at*
 obtain⟨R,hR⟩:=AJ (row 74 (Ab f S));rw[hR]at U
 have HC:=zz (fun i hi=>show R[i]?=some (f i)by rw[←hR];exact HC.o i hi)
 clear hR HM
 go_loopw[3,13] (fun lv iv wr=>∃(k n:Nat) (A:Option Addr) (c:Nat),k<=3/\n=k*7/\iv=.int .i64 (k:Int)/\lv=.slice A n c/\wr.ownsRow (L+1) 3 1 (.slice A n c) n (Ms.AQ (GY f k))/\Ae wr L 37 R/\Below L w wr) (fun _ iv _=>3-(intOf iv).toNat)
 .exact⟨0,0,none,0,Aa,rfl,rfl,rfl,World.ownsRow_nil _ _ _ _,U.o,C.o⟩
 clear U C;obtain⟨k,n,A,c,hk,hn,rfl,rfl,ho,qX,hb⟩:=hrel;have HO:=zz ho;have U:=zz qX;have C:=zz hb;have z:=zz hn;clear ho qX hb hn
 by_cases p:k<3
 .obtain⟨a,b,D,d,e,m,t,u,qY⟩:=Ki HF.o k p
  have ru:=zz (show GY f (k+1)=GY f k++[a,b,D,d,e,Qw t,m]by show GY f k++kr f k=_;rw[qY])
  have qR:=fun w=>rH.o k p w;rw[u]at qR;have rD:=U.o.lt
  have rQ:n<=14:=by have:=z.o;omega
  clear u qY
  go_upto_region 6 with fail
  have W:=zz (Ae.fresh wr 25 (AZ a b D d e t m));have s:=zz ((Below.refl wr.heap.size wr).alloc Nr (.cells (AZ a b D d e t m) 25));have HO:=zz (ownsRow_below HO.o s.o);have U:=zz (U.o.below s.o U.o.lt);have C:=zz (C.o.alloc Aa (.cells (AZ a b D d e t m) 25))
  generalize(wr.alloc (.cells (AZ a b D d e t m) 25))=w2 at*
  obtain⟨gs,qW⟩:=AJ (wr.heap.size);rw[qW]at W rD ⊢;have rO:=W.o.lt;have y0:=W.o.cell 0;have y1:=W.o.cell 1;have y2:=W.o.cell 2;have y3:=W.o.cell 3;have y4:=W.o.cell 4;have y5:=W.o.cell 5;have y6:=W.o.cell 6;simp only[List.getElem?_toArray,List.getElem?_cons_zero,List.getElem?_cons_succ]at y0 y1 y2 y3 y4 y5 y6;clear qW s W qR;obtain⟨be,O⟩:=AJ (Qw t);rw[O]at ru;have x:=zz (DU (Ae.fresh w2 3 (PV a b D d e be m)));have V:=zz (ownsRow_below HO.o ((Below.refl w2.heap.size w2).alloc Nr (.cells (PV a b D d e be m) 3)));have B:=zz (C.o.alloc Aa (.cells (PV a b D d e be m) 3));have qU:=zz (U.o.alloc (.cells (PV a b D d e be m) 3));have H:=U.o.lt
  have qV:=zz (show(n+7:Nat)=(k+1)*7 by have:=z.o;omega)
  have rq:=zz (show Ms.AQ (GY f (k+1))=Ms.AQ (GY f k)++[.int .i64 a,.int .i64 b,.int .i64 D,.int .i64 d,.int .i64 e,.int .i64 be,.int .i64 m]by rw[ru.o];simp[Ms.AQ])
  rcases t with _|_
  .have O:(0:Int)=be:=O;subst O
   go_wp2_with(at_builtin;go_loud (refine Aq _ rfl (.tmp 18) (.tmp 32) 63 rfl (base:=L+1) Ms.C8 rfl V.o rfl (fun h=>by cases h) x.o GR GX Aa Ec ?_);intro A9 c9 w5 F Z X;have G:=zz Z;have r:=zz (qU.o.grown X (fun e=>by have:=(V.o.lt _ e.symm).1;omega));have E:=zz (B.o.grown X Ec (fun g e=>by have:=(V.o.lt g e).1;omega));clear F Z X)
   refine⟨⟨k+1,n+7,A9,c9,Aa,qV.o,BG,rfl,by rw[rq.o];exact G.o,r.o,E.o⟩,Ck⟩
  have O:(1:Int)=be:=O;subst O
  go_wp2_with(at_builtin;go_loud (refine Aq _ rfl (.tmp 18) (.tmp 32) 63 rfl (base:=L+1) Ms.C8 rfl V.o rfl (fun h=>by cases h) x.o GR GX Aa Ec ?_);intro A9 c9 w5 F Z X;have G:=zz Z;have r:=zz (qU.o.grown X (fun e=>by have:=(V.o.lt _ e.symm).1;omega));have E:=zz (B.o.grown X Ec (fun g e=>by have:=(V.o.lt g e).1;omega));clear F Z X)
  refine⟨⟨k+1,n+7,A9,c9,Aa,qV.o,BG,rfl,by rw[rq.o];exact G.o,r.o,E.o⟩,Ck⟩
 obtain rfl:k=3:=Aa;clear p
 rw[show((3:Nat):Int)=3 from rfl]
 obtain rfl:n=21:=z.o;go_wp2_with fail
 go_loop[7,8,9,35] (fun rC mv jv xv=>∃k:Nat,k<=4/\xv=.int .i64 (k:Int)/\rC=.int .i64 ((SH f k:Nat):Int)/\mv=.int .i64 (Fq 31 f k)/\jv=.int .i64 (Fq 35 f k)) (fun _ _ _ xv=>4-(intOf xv).toNat)
 .exact⟨0,Aa,rfl,rfl,rfl,rfl⟩
 obtain⟨k,rM,rfl,rfl,rfl,rfl⟩:=hrel
 by_cases l:k<4
 .have c1: wr.cell? ⟨L,27+k,none⟩=some (.bool (bv (f (27+k)))):=by rw[U.o.cell,HC.o _ Aa,←Kb HF.o (27+k) Aa Aa]
  have c2: wr.cell? ⟨L,31+k,none⟩=some (.int .i64 (iv (f (31+k)))):=by rw[U.o.cell,HC.o _ Aa,←JU HF.o (31+k) Aa Aa]
  have c3: wr.cell? ⟨L,35+k,none⟩=some (.int .i64 (iv (f (35+k)))):=by rw[U.o.cell,HC.o _ Aa,←JU HF.o (35+k) Aa Aa]
  have rF:=zz (XI f k)
  have Y:=zz (show SH f (k+1)=SH f k+if bv (f (27+k))then 2 ^ k else 0 from rfl)
  have T:=zz (show Fq 31 f (k+1)=IntKind.i64.wrap (IntKind.i64.wrap (Fq 31 f k*8)+iv (f (31+k)))from rfl)
  have N:=zz (show Fq 35 f (k+1)=IntKind.i64.wrap (IntKind.i64.wrap (Fq 35 f k*8)+iv (f (35+k)))from rfl)
  generalize SH f k=I at*
  generalize Fq 31 f k=M at*
  generalize Fq 35 f k=J at*
  generalize iv (f (31+k))=x1 at*
  generalize iv (f (35+k))=x2 at*
  have y:=zz (pJ k l I rF.o);obtain⟨p1,rE⟩:=AJ (IntKind.i64.wrap (M*8));rw[rE]at T;obtain⟨p2,rJ⟩:=AJ (IntKind.i64.wrap (p1+x1));rw[rJ]at T;obtain⟨p3,rA⟩:=AJ (IntKind.i64.wrap (J*8));rw[rA]at N;obtain⟨p4,rG⟩:=AJ (IntKind.i64.wrap (p3+x2));rw[rG]at N
  cases hbv:bv (f (27+k))with
  |false=>
   rw[hbv]at c1 Y
   have Y:=zz (show SH f (k+1)=I by rw[Y.o];rfl)
   clear hbv;go_wp2_with fail;exact⟨⟨k+1,Aa,BG,by rw[Y.o],by rw[T.o],by rw[N.o]⟩,Ck⟩
  |true=>
   rw[hbv]at c1 Y
   have Y:=zz (show SH f (k+1)=I+2 ^ k by rw[Y.o];rfl)
   clear hbv;obtain rfl|rfl|rfl|rfl:k=0\/k=1\/k=2\/k=3:=Aa
   .have hor:=y.o
    simp at hor
    go_wp2_with fail
    exact⟨⟨1,Aa,rfl,by rw[show SH f 1=I+1 from Y.o];go_num,by rw[show Fq 31 f 1=p2 from T.o],by rw[show Fq 35 f 1=p4 from N.o]⟩,by simp[intOf]⟩
   .have hor:=y.o
    simp at hor
    go_wp2_with fail
    exact⟨⟨2,Aa,rfl,by rw[show SH f 2=I+2 from Y.o];go_num,by rw[show Fq 31 f 2=p2 from T.o],by rw[show Fq 35 f 2=p4 from N.o]⟩,by simp[intOf]⟩
   .have hor:=y.o
    simp at hor
    go_wp2_with fail
    exact⟨⟨3,Aa,rfl,by rw[show SH f 3=I+4 from Y.o];go_num,by rw[show Fq 31 f 3=p2 from T.o],by rw[show Fq 35 f 3=p4 from N.o]⟩,by simp[intOf]⟩
   have hor:=y.o
   simp at hor
   go_wp2_with fail
   exact⟨⟨4,Aa,rfl,by rw[show SH f 4=I+8 from Y.o];go_num,by rw[show Fq 31 f 4=p2 from T.o],by rw[show Fq 35 f 4=p4 from N.o]⟩,by simp[intOf]⟩
 obtain rfl:k=4:=Aa;clear l
 rw[show((4:Nat):Int)=4 from rfl]
 have qZ:=zz (show Ms.AQ (Fy f)=Ms.AQ (GY f 3)++[.int .i64 ((SH f 4:Nat):Int),.int .i64 (Fq 31 f 4),.int .i64 (Fq 35 f 4)]by unfold Fy;simp[Ms.AQ])
 obtain⟨I,hI⟩:∃I:Int,((SH f 4:Nat):Int)=I:=⟨_,rfl⟩;obtain⟨M,hM⟩:∃I:Int,Fq 31 f 4=I:=⟨_,rfl⟩;obtain⟨J,hJ⟩:∃I:Int,Fq 35 f 4=I:=⟨_,rfl⟩;rw[hI,hM,hJ]at qZ;rw[hI,hM,hJ];clear hI hM hJ z;have H:=U.o.lt;have x:=zz (DU (Ae.fresh wr 3 (G9 I M J)));have V:=zz (ownsRow_below HO.o ((Below.refl wr.heap.size wr).alloc Nr (.cells (G9 I M J) 3)));have B:=zz (C.o.alloc Aa (.cells (G9 I M J) 3))
 go_wp2_with(at_builtin;go_loud (refine Aq _ rfl (.tmp 65) (.tmp 69) 63 rfl (base:=L+1) Ms.C8 rfl V.o rfl (fun h=>by cases h) x.o GR GX Aa Ec ?_);intro A9 c9 w5 F Z X;have G:=zz Z;have E:=zz (B.o.grown X Ec (fun g e=>by have:=(V.o.lt g e).1;omega));clear F Z X)
 go_ret
 refine⟨A9,c9,rfl,?_,by rw[q.o];exact E.o⟩;rw[qZ.o,q.o];exact Bf G.o Aa
end Nd
namespace Nd
open Go.RowKit Mem Rws Flat
def Hf(s:Nat->Value)(k:Nat)(Z:k<4)(w:World):(Instr.index 88 (.agg (row 4 s)) (.int .i64 (k:Int))).run prog w=.ok (s k) w:=
 Js underlying88 underlying63 rfl Ap s k Z w
def eG(f:Nat->Value)(hf:∀i,i<73->C9 (Ar i) (f i))(k:Nat)(hk:k<4)(rR:f 0=.int .i64 (k:Int))(Y:Int)(rE:f 1=.int .i64 Y)(A:Option Addr)(c:Nat)(Z:List Bool)(AI:Option Addr)(ci:Nat)(D:List Cw)(B:Nat)(w:World)(hB:B<=w.heap.size)(hA:A=none->c=0)(rq:Z.length<=c)(hl:Z.length<=140737488351232)(hr:Rd w B 1 A Z.length (Au Z))(rX:D.length<=140737488355328)(hm:Cc w B AI D):
  Calls prog 19 #[.agg (row 74 (Ab f (.slice A Z.length c))),.slice AI D.length ci] w fun e w'=>Ej w w' (DX f (OQ (k:Int) Y D) 4) Z 2 (k:Int) Y (hvs (DX f (OQ (k:Int) Y D) 4)) e:=by
 have t:∀(A:Option Addr) (n c:Nat),(row 74 (Ab f (.slice A n c))).all (·.oneCell')=true:=fun A n c=>Cv hf;have HO:=zz t;have HF:=zz hf;have rJ:=zz rR;have rW:=zz rE;clear hf t rR rE
 go_in
 go_upto_region 1 with fail
 have D3:Hid (Ae (((w.alloc (.cells (row 74 (Ab f (.slice A Z.length c))) 37)).alloc (.cells zeroCells37 37)).alloc (.cells QV 65)) w.heap.size 37 (row 74 (Ab f (.slice A Z.length c)))):=zz (((Ae.new rfl).alloc _).alloc _);have D6:Hid (Ae (((w.alloc (.cells (row 74 (Ab f (.slice A Z.length c))) 37)).alloc (.cells zeroCells37 37)).alloc (.cells QV 65)) (w.heap.size+1) 37 zeroCells37):=zz ((Ae.new Bq).alloc _);have D7:Hid (Ae (((w.alloc (.cells (row 74 (Ab f (.slice A Z.length c))) 37)).alloc (.cells zeroCells37 37)).alloc (.cells QV 65)) (w.heap.size+1+1) 65 QV):=zz (Ae.new Bq);have U:=zz (((((Below.refl w.heap.size w).alloc Nr (.cells (row 74 (Ab f (.slice A Z.length c))) 37)).alloc Bq (.cells zeroCells37 37)).alloc Ec (.cells QV 65)));have HR:=zz hr;have sD:=zz hm;clear hr hm
 generalize(((w.alloc (.cells (row 74 (Ab f (.slice A Z.length c))) 37)).alloc (.cells zeroCells37 37)).alloc (.cells QV 65))=W at*
 have r:∀A (n:Nat) c,(prog.info? 37).map (·.size)=some (row 74 (Ab f (.slice A n c))).size:=fun A n c=>by rw[Ag];kernel_rfl
 have HI:=zz r;clear r;have sK:w.heap.size+1+1<W.heap.size:=D7.o.lt;have rQ:=HI.o A Z.length c;obtain⟨R1,qQ⟩:=AJ (row 74 (Ab f (.slice A Z.length c)));have l:=zz qQ;rw[qQ]at D3 rQ;clear qQ
 go_wp2_with(refine Ad rfl 37 _ rfl w.heap.size rfl D3.o _ underlying37 rfl rQ ?_)
 rw[←l.o];refine(Ho f HF.o A c Z B _ (Nat.le_trans hB U.o.size) hA rq hl (HR.o.below (U.o.mono hB))).mono ?_;rintro e w1 ⟨R,N,rfl,v,I⟩;rw[l.o];have rP:=zz v;have rD:=CU U I;have sw:=I.size;have E:=HI.o R Z.length N;have qR:=HO.o R Z.length N
 have qW:(row 74 (Ab f (.slice R Z.length N)))[0]?=some (.int .i64 (k:Int)):=by rw[Ah Aa];exact congrArg some rJ.o
 have rT:(row 74 (Ab f (.slice R Z.length N)))[1]?=some (.int .i64 Y):=by rw[Ah Aa];exact congrArg some rW.o
 have qX:R1.size=(row 74 (Ab f (.slice R Z.length N))).size:=by rw[←l.o,Ag,Ag]
 obtain⟨C,qU⟩:=AJ (row 74 (Ab f (.slice R Z.length N)));have su:=zz qU;rw[qU]at E qR qW rT qX ⊢;clear qU;have E3:=AU D3 I;have F3:=zz (E3.o.setRow C);have F6:=zz ((D6.o.below I D6.o.lt).setRow_other (g':=w.heap.size) Aa C);have F7:=zz ((D7.o.below I D7.o.lt).setRow_other (g':=w.heap.size) Aa C);have rM:=zz (below_setRow rD.o Nr C)
 have rC:=zz (Ay rP.o (show w.heap.size<W.heap.size by omega) C)
 have cT:=fun w=>Gu C (k:Int) qW w;have sI:¬((k:Int)<0):=Aa
 have rU:Dt (k:Int)=false:=by unfold Dt;simp;omega
 rw[rU]at cT;clear I v rU
 go_upto_region 4 with(first
  |(refine wpList_store_row rfl 37 _ _ rfl w.heap.size C rfl rfl 37 _ E3.o E qX qR ?_)
  |(refine Ad rfl 37 _ rfl w.heap.size rfl F3.o _ underlying37 rfl E ?_)
  |(go_at_call 37;refine(cT _).mono ?_;rintro e w3 ⟨rfl,L⟩;have G3:=AU F3 L;have G6:=AU F6 L;have V:=AU F7 L;have y:=CU rM L;have rH:=GJ rC L;have rY:=Nat.le_trans sw (Nat.le_trans (show w1.heap.size<=(w1.setRow w.heap.size C).heap.size from(below_setRow (Below.refl 0 w1) (Nat.zero_le _) C).size) L.size);clear L))
 clear U rD rM rP rC D3 D6 D7 E3 F3 F6 F7 cT qX;have sH:=zz rq;have cH:=La C (k:Int) Y qW rT AI ci D 3 1 Aa B w3 (Nat.le_trans hB y.o.size) rX (sD.o.below (y.o.mono hB))
 rw[show((1:Nat):Int)=1 from rfl]at cH
 have CH:=zz cH;clear cH
 go_wp2_with(refine Ad rfl 37 _ rfl w.heap.size rfl G3.o _ underlying37 rfl E ?_)
 refine CH.o.mono ?_;rintro e w4 ⟨s,rfl,hs,hb⟩;have M:=fun(j:Nat) (hj:j<4) (w:World)=>Hf s j hj w;have sG:=zz M
 generalize row 4 s=R4 at*
 have G3:=AU G3 hb;have G6:=AU G6 hb;have V:=AU V hb;have O:=GJ rH hb;have rF:=CU y hb;have J:=zz (fun i hi=>(hs i hi).keep (base':=W.heap.size) fun n xs h=>Bf h rY);rw[←su.o]at G3;clear hs hb rH y CH qR E M;obtain⟨T,qZ⟩:=AJ (OQ (k:Int) Y D);have rG:=zz qZ
 have r9:=zz (fun j:Nat=>show T j=(Be (k:Int) Y 3 1 (j:Int) D).map (fun m=>m.zs.getD 0 0)by rw[←qZ];rfl)
 clear qZ;go_wp2_with fail
 go_loopw[17] (fun i wr=>∃j:Nat,j<=4/\i=.int .i64 j/\Ae wr w.heap.size 37 (row 74 (Ab (DX f T j) (.slice R Z.length N)))/\Ae wr (w.heap.size+1) 37 zeroCells37/\Ae wr (w.heap.size+1+1) 65 QV/\wr.ownsRow W.heap.size 4 1 (.slice R Z.length N) Z.length (Au Z)/\(∀i:Nat,i<4->EH wr W.heap.size (Be (k:Int) Y 3 1 (i:Int) D) (s i))/\Below w.heap.size w wr) (fun i _=>4-(intOf i).toNat)
 .exact⟨0,Aa,rfl,by rw[P6];exact G3.o,G6.o,V.o,O.o,J.o,rF.o⟩
 clear G3 G6 V O J rF;obtain⟨j,hj,rfl,g3,g6,g7,hw,hs,hb⟩:=hrel;have G3:=zz g3;have G6:=zz g6;have V:=zz g7;have O:=zz hw;have J:=zz hs;have U:=zz hb;clear g3 g6 g7 hw hs hb
 by_cases x:j<4
 .have M:=fun w=>sG.o j x w;have G:=J.o j x;have X:=r9.o j
  cases ho:Be (k:Int) Y 3 1 (j:Int) D with
  |none=>
   rw[ho]at G X
   rw[show s j=.slice none 0 0 from G]at M
   have g:=zz (show T j=none from X)
   clear G X ho;go_wp2_with fail;exact⟨⟨j+1,Aa,BG,by rw[QS f T j _ g.o];exact G3.o,G6.o,V.o,O.o,J.o,U.o⟩,Ck⟩
  |some m=>
   have rO:=IE ho;rw[ho]at G X;obtain⟨a,ca,rV,d⟩:=G;rw[rV]at M d
   obtain⟨b,o,u,e1,sJ,hu,H⟩:=(Rd.Bu d).at (show 0<m.zs.length by omega)
   injection e1 with e1
   subst e1
   obtain⟨z,hz⟩:∃z,m.zs=[z]:=by
    match hq:m.zs,rO with
    |[z],_=>exact⟨z,rfl⟩
   have X:T j=some (m.zs.getD 0 0):=X;rw[hz]at hu X M
   have hu:u=.int .i64 z:=by simpa[Ms.AQ] using hu.symm
   subst hu
   have g:=zz (show T j=some z from X)
   have H: wr.cell? ⟨b,o,none⟩=some (.int .i64 z):=H
   have x5: wr.cell? ⟨w.heap.size,51+j,none⟩=some (Ab (DX f T j) (.slice R Z.length N) (51+j)):=by rw[G3.o.cell,Ah Aa]
   have f5:=G3.o.thaw (51+j);have q:([z]:List Int).length=1:=rfl;rw[q]at M;clear rV d hu X ho hz rO q;go_wp2_with fail
   refine⟨⟨j+1,Aa,BG,?_,G6.o.other (p:=⟨w.heap.size,51+j,none⟩) (by show w.heap.size+1≠w.heap.size;omega) _,V.o.other (p:=⟨w.heap.size,51+j,none⟩) (by show w.heap.size+1+1≠w.heap.size;omega) _,Vt.Ch O.o Aa _,fun i hi=>(J.o i hi).keep fun n xs h=>Vt.Ch h Aa _,U.o.setCell (p:=⟨w.heap.size,51+j,none⟩) Nr _⟩,Ck⟩
   rw[←Q6 f T j x _ g.o];exact G3.o.set (51+j) _
 obtain rfl:j=4:=Aa;clear x
 rw[show((4:Nat):Int)=4 from rfl]
 have ru:=zz (Pt HF.o T 4 Nr);have o5:=Cv ru.o (A:=R) (n:=Z.length) (c:=N);have i5:(prog.info? 37).map (·.size)=some (row 74 (Ab (DX f T 4) (.slice R Z.length N))).size:=Eg;have z5:(zeroCells37).size=(row 74 (Ab (DX f T 4) (.slice R Z.length N))).size:=Eg
 have j0:(row 74 (Ab (DX f T 4) (.slice R Z.length N)))[0]?=some (.int .i64 (k:Int)):=by rw[Ah Aa];exact congrArg some ((IX f T 4 0 Aa).trans rJ.o)
 have j1:(row 74 (Ab (DX f T 4) (.slice R Z.length N)))[1]?=some (.int .i64 Y):=by rw[Ah Aa];exact congrArg some ((IX f T 4 1 Aa).trans rW.o)
 obtain⟨F,qV⟩:=AJ (row 74 (Ab (DX f T 4) (.slice R Z.length N)));rw[qV]at o5 i5 z5 j0 j1 G3;have rA:=zz qV;clear qV
 go_upto_region 10 with fail
 have G3:=zz G3.o.drew;have G6:=zz G6.o.drew;have V:=zz V.o.drew;have O:=zz (ownsRow_below O.o ((Below.refl wr.heap.size wr).drew));have U:=zz U.o.drew;clear J;have J:=G3.o;refine wp_region_noPanic ?_;refine A8 [0,1] (fun w'=>Ae w' w.heap.size 37 F) Ap ?_
 generalize wr.drew=V0 at*
 refine Ba 0 (.agg F) J (hy:=?_) (h:=?_)
 . (intro w' qY;exact Az 37 _ rfl _ rfl qY underlying37 rfl i5)
 refine Ba 1 (.agg F) J (hy:=?_) (h:=?_)
 . (intro w' qY;exact Az 37 _ rfl _ rfl qY underlying37 rfl i5)
 refine Ac 2 ?_;refine Ac 3 ?_;refine Aw 4 ?_;refine Bt ?_;intro K hK;rw[Ao Bb];go_simp
 go_at_call 38
 refine(Mf F (k:Int) Y 2 (some ⟨w.heap.size,51,none⟩) 4 4 j0 j1 V0).mono ?_;rintro e V1 ⟨rfl,hb⟩;have G3:=AU G3 hb;have G6:=AU G6 hb;have V:=AU V hb;have O:=GJ O hb;have U:=CU U hb;clear hb J;have J:=G3.o;go_wp2_with fail;refine hK.o _ _ J ?_;refine Aw 5 ?_;refine AX ?_ ?_
 . kernel_rfl
 intro K hK;rw[Ao Bb];refine wp_store_row 37 _ _ rfl (w.heap.size+1) F rfl rfl 37 _ G6.o i5 z5 o5 ?_;have G3:=zz (G3.o.setRow_other (g':=w.heap.size+1) Aa F);have V:=zz (V.o.setRow_other (g':=w.heap.size+1) Aa F);have G6:=zz (G6.o.setRow F)
 have U:=zz (below_setRow U.o (show w.heap.size<=w.heap.size+1 by omega) F)
 have O:=zz (Ay O.o (show w.heap.size+1<W.heap.size by omega) F)
 generalize(V1.setRow (w.heap.size+1) F)=V2 at*
 refine hK.o _ _ ?_;refine Aw 6 ?_;refine AX ?_ ?_
 . kernel_rfl
 intro K hK;rw[Ao Bb];refine wp_store_row 65 _ _ rfl (w.heap.size+1+1) (Ms.AR 2 (k:Int) Y (some ⟨w.heap.size,51,none⟩) 4 4) rfl rfl 65 _ V.o Ap rfl (by simp[Ms.AR,Value.oneCell']) ?_;have G3:=zz (G3.o.setRow_other (g':=w.heap.size+1+1) Aa (Ms.AR 2 (k:Int) Y (some ⟨w.heap.size,51,none⟩) 4 4));have G6:=zz (G6.o.setRow_other (g':=w.heap.size+1+1) Aa (Ms.AR 2 (k:Int) Y (some ⟨w.heap.size,51,none⟩) 4 4));have V:=zz (V.o.setRow (Ms.AR 2 (k:Int) Y (some ⟨w.heap.size,51,none⟩) 4 4))
 have U:=zz (below_setRow U.o (show w.heap.size<=w.heap.size+1+1 by omega) (Ms.AR 2 (k:Int) Y (some ⟨w.heap.size,51,none⟩) 4 4))
 have O:=zz (Ay O.o (show w.heap.size+1+1<W.heap.size by omega) (Ms.AR 2 (k:Int) Y (some ⟨w.heap.size,51,none⟩) 4 4))
 generalize(V2.setRow (w.heap.size+1+1) (Ms.AR 2 (k:Int) Y (some ⟨w.heap.size,51,none⟩) 4 4))=V3 at*
 refine hK.o _ _ ?_;(try simp only[Rg.lp]);refine Bg Ap ?_ _;refine NoPanic.normal ?_;clear J;go_wp2_with fail;have rZ:(prog.info? 65).map (·.size)=some (Ms.AR 2 (k:Int) Y (some ⟨w.heap.size,51,none⟩) 4 4).size:=Ap;refine Da rfl rfl rfl G6.o ⟨by rw[underlying37],i5⟩ V.o ⟨by rw[underlying65],rZ⟩ rfl ⟨R,N,some ⟨w.heap.size,51,none⟩,4,by rw[rG.o,rA.o];rfl,Rd.Bu O.o,?_,U.o,fun a h=>Nat.le_trans Aa (Db O.o a h),(fun a h=>by cases h;exact Nat.le_refl _),BU O.o⟩;rw[rG.o];have h3:=G3.o;rw[←rA.o]at h3;exact(U8 ru.o h3).more (by have:=G3.o.lt;omega)
end Nd
end Go.Proofs.YtjobajeggllmiaaGreat
