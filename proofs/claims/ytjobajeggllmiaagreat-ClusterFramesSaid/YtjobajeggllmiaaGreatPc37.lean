import Derived.Test.YtjobajeggllmiaaGreatPc0
import Derived.Test.YtjobajeggllmiaaGreatPc31
import Derived.Test.YtjobajeggllmiaaGreatPc32
import Derived.Test.YtjobajeggllmiaaGreatPc33
import Derived.Test.YtjobajeggllmiaaGreatPc36
set_option linter.all false
set_option maxHeartbeats 100000000
set_option maxRecDepth 100000
namespace Go.Proofs.YtjobajeggllmiaaGreat
open Ms Rg _root_.Go.Proofs.Tryz
namespace Cf
open Go.ChangeShapes Go.WideShapes Go.ChangeAt Go.RowKit Mem Rws Nd Cl
section
variable {c : Du} {x : He} {p i : Nat} {W : World} {A AI : Option Addr} {cc ci : Nat}
def qL(Z:Gi c)(T:p=0)(hi:i<4)(Y:A=none->cc=0)(X:(Vp c x p i).length<=cc)(U:Rd W W.heap.size 1 A (Vp c x p i).length (Au (Vp c x p i))):
  Calls prog 25 #[.agg (row 74 (Ab (Fp c x p i) (.slice A (Vp c x p i).length cc))),.int .i64 c.fr,.agg (G9 (x.rd (i*3)) (x.rd (i*3+1)) (x.rd (i*3+2)))] W fun e w'=>Ej W w' (Gp c x p i) (Lp c x p i) (kp p) (i:Int) c.fr (zp c x p i) e:=by
 subst T;exact Uo (c.F i) (Z.ok i hi) i hi (Z.id i hi) c.fr _ _ _ A cc (c.V i) W.heap.size W Nr Y X (Z.v i hi) U
def qN(Y:Gi c)(Z:∀i,i<12->Wf (x.rd i))(J:x.ls.length<=400)(L:p=1)(hi:i<4)(hb:(i:Int)≠x.bad)(X:A=none->cc=0)(O:(Vp c x p i).length<=cc)(N:Rd W W.heap.size 1 A (Vp c x p i).length (Au (Vp c x p i)))(T:Cc W W.heap.size AI (Yp c x (p-1) i)):
  Calls prog 26 #[.agg (row 74 (Ab (Fp c x p i) (.slice A (Vp c x p i).length cc))),.slice AI (Yp c x (p-1) i).length ci] W fun e w'=>Ej W w' (Gp c x p i) (Lp c x p i) (kp p) (i:Int) c.fr (zp c x p i) e:=by
 subst L;obtain⟨U,R,M,I⟩:=Tm Y Z (p:=0) Aa i hi hb;exact Uz (F1 c x i) M i hi U c.fr R A cc (c.V i) AI ci (X1 c x i) W.heap.size W Nr X O (Y.v i hi) N (Fa _ _ _ _ _ _ _ J i) T
def qG(Y:Gi c)(Z:∀i,i<12->Wf (x.rd i))(I:x.ls.length<=400)(L:p=2)(hi:i<4)(hb:(i:Int)≠x.bad)(X:A=none->cc=0)(O:(Vp c x p i).length<=cc)(N:Rd W W.heap.size 1 A (Vp c x p i).length (Au (Vp c x p i)))(T:Cc W W.heap.size AI (Yp c x (p-1) i)):
  Calls prog 27 #[.agg (row 74 (Ab (Fp c x p i) (.slice A (Vp c x p i).length cc))),.slice AI (Yp c x (p-1) i).length ci] W fun e w'=>Ej W w' (Gp c x p i) (Lp c x p i) (kp p) (i:Int) c.fr (zp c x p i) e:=by
 subst L;obtain⟨U,R,M,J⟩:=Tm Y Z (p:=1) Aa i hi hb;exact R9 (F2 c x i) M i hi U c.fr R A cc (c.V i) AI ci (X2 c x i) W.heap.size W Nr X O (Y.v i hi) N (Fa _ _ _ _ _ _ _ I i) T J (Ku _ _ _ _ _ _ _ _ _)
def qO(Y:Gi c)(Z:∀i,i<12->Wf (x.rd i))(J:x.ls.length<=400)(L:p=3)(hi:i<4)(hb:(i:Int)≠x.bad)(X:A=none->cc=0)(O:(Vp c x p i).length<=cc)(N:Rd W W.heap.size 1 A (Vp c x p i).length (Au (Vp c x p i)))(T:Cc W W.heap.size AI (Yp c x (p-1) i)):
  Calls prog 28 #[.agg (row 74 (Ab (Fp c x p i) (.slice A (Vp c x p i).length cc))),.slice AI (Yp c x (p-1) i).length ci] W fun e w'=>Ej W w' (Gp c x p i) (Lp c x p i) (kp p) (i:Int) c.fr (zp c x p i) e:=by
 subst L;obtain⟨U,R,M,I⟩:=Tm Y Z (p:=2) Aa i hi hb;exact VR (F3 c x i) M i hi U c.fr R A cc (c.V i) AI ci (X3 c x i) W.heap.size W Nr X O (Y.v i hi) N (Fa _ _ _ _ _ _ _ J i) T
def qE(Y:Gi c)(Z:∀i,i<12->Wf (x.rd i))(I:x.ls.length<=400)(L:p=4)(hi:i<4)(hb:(i:Int)≠x.bad)(X:A=none->cc=0)(O:(Vp c x p i).length<=cc)(N:Rd W W.heap.size 1 A (Vp c x p i).length (Au (Vp c x p i)))(T:Cc W W.heap.size AI (Yp c x (p-1) i)):
  Calls prog 29 #[.agg (row 74 (Ab (Fp c x p i) (.slice A (Vp c x p i).length cc))),.slice AI (Yp c x (p-1) i).length ci] W fun e w'=>Ej W w' (Gp c x p i) (Lp c x p i) (kp p) (i:Int) c.fr (zp c x p i) e:=by
 subst L;obtain⟨U,R,M,J⟩:=Tm Y Z (p:=3) Aa i hi hb;exact TF (F4 c x i) M i hi U c.fr R A cc (c.V i) AI ci (X4 c x i) W.heap.size W Nr X O (Y.v i hi) N (Fa _ _ _ _ _ _ _ I i) T J (Ku _ _ _ _ _ _ _ _ _)
end
structure Ht(w wr:World)(c:Du)(x:He)(RC RI:Array Value)(p i:Nat)(F:Nat->Nat->Value)(V:Nat->List Bool)(gx B:Nat)(P Q:Nat->Value)(VA:Nat->Option Addr)(VC:Nat->Nat):Prop where
 rf:KU w wr c.fr RC RI F VA V VC
 bS:Ae wr (w.heap.size+4) 79 #[P 0,P 1,P 2,P 3]
 bX:Ae wr gx 79 #[Q 0,Q 1,Q 2,Q 3]
 hgx:w.heap.size+5<=gx
 hB:gx<B/\B<=wr.heap.size
 old:∀s:Nat,s<4->(s:Int)≠x.bad->0<p->FE wr (w.heap.size+5) gx (P s) (kp (p-1)) (s:Int) c.fr (zp c x (p-1) s)
 new:∀s:Nat,s<i->(s:Int)≠x.bad->FE wr (gx+1) B (Q s) (kp p) (s:Int) c.fr (zp c x p s)
 ne:∀j,j<4->0<(V j).length->∀a,VA j=some a->a.block≠gx/\a.block<B
section
variable {w wr w' : World} {c : Du} {x : He} {RC RI : Array Value} {p i : Nat} {F : Nat -> Nat -> Value} {V : Nat -> List Bool} {gx B : Nat} {P Q : Nat -> Value} {VA : Nat -> Option Addr} {VC : Nat -> Nat}
def Ht.below(h:Ht w wr c x RC RI p i F V gx B P Q VA VC)(hb:Below wr.heap.size wr w'):Ht w w' c x RC RI p i F V gx B P Q VA VC:=
 ⟨h.rf.below hb,h.bS.below hb h.bS.lt,h.bX.below hb h.bX.lt,h.hgx,⟨h.hB.1,Nat.le_trans h.hB.2 hb.size⟩,fun s X Y U=>(h.old s X Y U).keep (fun b _ Z=>hb.block b (Nat.lt_trans Z h.bX.lt)) Nr Nr,fun s X Y=>(h.new s X Y).keep (fun b _ Z=>hb.block b (Nat.lt_of_lt_of_le Z h.hB.2)) Nr Nr,h.ne⟩
def Ht.drew(h:Ht w wr c x RC RI p i F V gx B P Q VA VC):Ht w wr.drew c x RC RI p i F V gx B P Q VA VC:=⟨h.rf.drew,h.bS.drew,h.bX.drew,h.hgx,h.hB,h.old,h.new,h.ne⟩
def Ht.top(h:Ht w wr c x RC RI p i F V gx B P Q VA VC):Ht w wr c x RC RI p i F V gx wr.heap.size P Q VA VC:=
 ⟨h.rf,h.bS,h.bX,h.hgx,⟨h.bX.lt,Nat.le_refl _⟩,h.old,fun s U X=>(h.new s U X).more h.hB.2 Nr,fun j Y Z a e=>⟨(h.ne j Y Z a e).1,Nat.lt_of_lt_of_le (h.ne j Y Z a e).2 h.hB.2⟩⟩
def Ht.node(h:Ht w wr c x RC RI p i F V gx B P Q VA VC){k:Nat}(J:k<4)(f:Nat->Value)(A:Option Addr)(L:List Bool)(cc:Nat)(O:Rd wr wr.heap.size 1 A L.length (Au L))(D:A=none->cc=0)(H:L.length<=cc)(Z:∀a,A=some a->gx<a.block):
  Ht w (wr.setCells (w.heap.size+3) (1+k*74) (row 74 (Ab f (.slice A L.length cc))).toList) c x RC RI p i (setAt F k f) (setAt V k L) gx wr.heap.size P Q (setAt VA k A) (setAt VC k cc):=by
 obtain⟨T,Y⟩:=Ib (w.heap.size+3) (row 74 (Ab f (.slice A L.length cc))).toList (1+k*74) wr;have I:=h.hgx;have G:=h.hB;refine⟨h.rf.node J f A L cc O D H (fun _ a e=>.inr (by have:=Z a e;omega)),Al (w:=wr) Aa _ _ _ h.bS,Al (w:=wr) Aa _ _ _ h.bX,I,⟨h.bX.lt,by rw[T];exact Nat.le_refl _⟩,fun s X R E=>(h.old s X R E).keep (fun b Z _=>Y b Aa) Nr Nr,fun s X R=>(h.new s X R).keep (fun b Z _=>Y b Aa) G.2 Nr,fun j C U a e=>?_⟩
 by_cases N:j=k
 .subst N;rw[AY]at e U;have X:=Z a e;obtain⟨b,o,M,hb,_⟩:=O.2 U;rw[M]at e
  injection e with e
  subst e;exact⟨Aa,hb⟩
 rw[Bj _ _ N]at e U;have:=h.ne j C U a e;exact⟨this.1,Aa⟩
def qg(Q:Nat->Value){k:Nat}(Z:k<4)(v:Value):(#[Q 0,Q 1,Q 2,Q 3]:Array Value).setIfInBounds k v=#[setAt Q k v 0,setAt Q k v 1,setAt Q k v 2,setAt Q k v 3]:=by
 obtain rfl|rfl|rfl|rfl:k=0\/k=1\/k=2\/k=3:=Aa
 all_goals rfl
def Ht.fresh(h:Ht w wr c x RC RI p i F V gx B P Q VA VC){g:Nat}(R:wr.grownBy w' (some g))(U:w'.heap.size=wr.heap.size)(M:gx<g)(T:∀j,j<4->0<(V j).length->∀a,VA j=some a->a.block≠g)(hq:∀s:Nat,s<i->(s:Int)≠x.bad->FE wr (gx+1) g (Q s) (kp p) (s:Int) c.fr (zp c x p s))(hgB:g<=B):Ht w w' c x RC RI p i F V gx B P Q VA VC:=by
 have N:=h.hgx;have Z:∀b,b<g->b<wr.heap.size->w'.heap[b]?=wr.heap[b]?:=fun b X Y=>R.block b Y (fun e=>by injection e with e;omega);have J:=h.bX.lt;have O:=h.hB;exact⟨h.rf.other R U Aa T,(Z _ Aa h.bS.lt).trans h.bS,(Z _ Aa h.bX.lt).trans h.bX,N,⟨O.1,Aa⟩,fun s X Y L=>(h.old s X Y L).keep (fun b _ O=>Z b Aa Aa) Nr Nr,fun s X Y=>(hq s X Y).keep (fun b _ hb=>Z b hb Aa) hgB Nr,h.ne⟩
def Ht.sent(h:Ht w wr c x RC RI p i F V gx B P Q VA VC)(hi:i<4){C:Array Value}(I:Ae wr B 65 C)(f:Nat->Value)(A:Option Addr)(L:List Bool)(cc:Nat)(v:Rd wr wr.heap.size 1 A L.length (Au L))(g:A=none->cc=0)(n:L.length<=cc)(X:∀a,A=some a->B<a.block)(A4:Option Addr)(c4:Nat)(hr4:Rd wr wr.heap.size 1 A4 (zp c x p i).length (Ms.AQ (zp c x p i)))(hlo4:∀a,A4=some a->B<a.block)(hw:∀z∈zp c x p i,Wf z):
  Ht w ((wr.setCells (w.heap.size+3) (1+i*74) (row 74 (Ab f (.slice A L.length cc))).toList).setRow B #[.int .i64 (kp p),.int .i64 (i:Int),.int .i64 c.fr,.slice A4 (zp c x p i).length c4]) c x RC RI p i (setAt F i f) (setAt V i L) gx wr.heap.size P Q (setAt VA i A) (setAt VC i cc)/\
   FE ((wr.setCells (w.heap.size+3) (1+i*74) (row 74 (Ab f (.slice A L.length cc))).toList).setRow B #[.int .i64 (kp p),.int .i64 (i:Int),.int .i64 c.fr,.slice A4 (zp c x p i).length c4]) (gx+1) wr.heap.size (.pointer (some ⟨B,0,none⟩)) (kp p) (i:Int) c.fr (zp c x p i):=by
 have hx:=h.hgx;have m:=h.hB;have E:=I.lt;obtain⟨y,T⟩:=Ib (w.heap.size+3) (row 74 (Ab f (.slice A L.length cc))).toList (1+i*74) wr;have l:=h.node hi f A L cc v g n (fun a e=>by have:=X a e;omega);have O:=Al (b':=w.heap.size+3) (w:=wr) Aa (row 74 (Ab f (.slice A L.length cc))).toList (1+i*74) _ I
 generalize r:(wr.setCells (w.heap.size+3) (1+i*74) (row 74 (Ab f (.slice A L.length cc))).toList)=Y at*
 have Z:=below_setRow (Below.refl 0 Y) (Nat.zero_le B) #[.int .i64 (kp p),.int .i64 (i:Int),.int .i64 c.fr,.slice A4 (zp c x p i).length c4]
 have M:(Y.setRow B #[.int .i64 (kp p),.int .i64 (i:Int),.int .i64 c.fr,.slice A4 (zp c x p i).length c4]).heap.size=Y.heap.size:=by simp[World.setRow]
 have G:Y.grownBy (Y.setRow B #[.int .i64 (kp p),.int .i64 (i:Int),.int .i64 c.fr,.slice A4 (zp c x p i).length c4]) (some B):=⟨Z.os,Z.tape,Z.output,Z.size,fun k _ N=>setRow_other Y B k _ (fun e=>N (by rw[e]))⟩;refine⟨l.fresh G M m.1 (fun j hj R a e=>?_) (fun s t J=>(h.new s t J).keep (fun b X _=>T b Aa) Nr Nr) Aa,B,A4,c4,rfl,O.setRow _,Aa,Aa,nY p i,⟨hr4.1,fun R=>?_⟩,fun a e=>by have:=hlo4 a e;omega,fun z d=>by have:=Op.wf_i64 (hw z d);omega⟩
 .by_cases H:j=i
  .subst H;rw[AY]at e;have:=X a e;omega
  rw[Bj _ _ H]at e R;have:=h.ne j hj R a e;omega
 obtain⟨b,o,e,hb,D⟩:=hr4.2 R;have U:=hlo4 _ e;have U:B<b:=U;refine⟨b,o,e,hb,fun j u q=>?_⟩
 rw[World.cell?_of_block (show(Y.setRow B _).heap[b]?=Y.heap[b]? from setRow_other Y B b _ Aa),World.cell?_of_block (show Y.heap[b]?=wr.heap[b]? from T b Aa)]
 exact D j u q
def Ht.said(h:Ht w wr c x RC RI p i F V gx B P Q VA VC)(hi:i<4){Y:Nat}(M:FE wr (gx+1) B (.pointer (some ⟨Y,0,none⟩)) (kp p) (i:Int) c.fr (zp c x p i)):
  Ht w (wr.setCell ⟨gx,i,none⟩ (.pointer (some ⟨Y,0,none⟩))) c x RC RI p (i+1) F V gx B P (setAt Q i (.pointer (some ⟨Y,0,none⟩))) VA VC:=by
 have L:=h.hgx
 have N:wr.grownBy (wr.setCell ⟨gx,i,none⟩ (.pointer (some ⟨Y,0,none⟩))) (some gx):=⟨rfl,rfl,rfl,Bq,fun k G U=>Below.heap_setCell wr ⟨gx,i,none⟩ _ k (fun e=>U (by rw[show k=gx from e]))⟩
 have Z:∀b,b≠gx->(wr.setCell ⟨gx,i,none⟩ (.pointer (some ⟨Y,0,none⟩))).heap[b]?=wr.heap[b]?:=fun b hb=>Below.heap_setCell wr ⟨gx,i,none⟩ _ b hb;have X:(wr.setCell ⟨gx,i,none⟩ (.pointer (some ⟨Y,0,none⟩))).heap.size=wr.heap.size:=Bq;refine⟨h.rf.other N X Aa (fun j H I a e=>(h.ne j H I a e).1),(Z _ Aa).trans h.bS,?_,L,⟨h.hB.1,by rw[X];exact h.hB.2⟩,fun s O R J=>(h.old s O R J).keep (fun b _ E=>Z b Aa) Nr Nr,fun s O R=>?_,h.ne⟩
 .have:=h.bX.set i (.pointer (some ⟨Y,0,none⟩));rw[qg Q hi]at this;exact this
 by_cases e:s=i
 .subst e;rw[AY];exact M.keep (fun b T _=>Z b Aa) Nr Nr
 rw[Bj _ _ e];exact(h.new s Aa R).keep (fun b T _=>Z b Aa) Nr Nr
def Ht.skip(h:Ht w wr c x RC RI p i F V gx B P Q VA VC)(hb:(i:Int)=x.bad):Ht w wr c x RC RI p (i+1) F V gx B P Q VA VC:=
 ⟨h.rf,h.bS,h.bX,h.hgx,h.hB,h.old,fun s Y Z=>h.new s (by
  rcases Nat.lt_or_ge s i with g|g
  . exact g
  exact absurd (show(s:Int)=x.bad from by rw[←hb,show s=i by omega]) Z) Z,h.ne⟩
end
end Cf
namespace Nd
open Go.RowKit Mem Rws Flat
def U9(w w':World)(Y:Nat)(Z:List Int)(f:Nat->Value)(S:Value)(e:Ending):Prop:=
 e=.returned (.bool (CQ Z))/\Ae w' Y 37 (row 74 (Ab (if CQ Z=true then EX Z f else f) S))/\w.grownBy w' (some Y)
def Yy(f:Nat->Value)(Z:List Int)(hl:Z.length=24)(a:Option Addr)(c:Nat)(hc:24<=c)(S:Value)(O:Nat)(w:World)(hf:∀i,i<73->C9 (Ar i) (f i))(hn:Ae w O 37 (row 74 (Ab f S)))(hr:Rd w w.heap.size 1 a Z.length (Ms.AQ Z)):
  Calls prog 77 #[.pointer (some ⟨O,0,none⟩),.slice a 24 c] w fun e w'=>U9 w w' O Z f S e:=by
 obtain⟨b,o,rfl,hb,hz⟩:=nD hr hl;have HZ:=zz hz;have HN:=zz hn;have HF:=zz hf;have qW:=hn.lt;clear hr hn hz hf
 go_in
 go_upto_region 2 with fail
 have U:=zz (show Ae (w.alloc (.cells RV 30)) w.heap.size 30 (row 12 (Bo (Ns (CZ Z).f 0) (Jb (CZ Z).m 0) (Jb (CZ Z).j 0)))from Ae.fresh _ _ _)
 have HG:=zz (gQ w (.cells RV 30) (some O));have T:=zz ((Below.refl w.heap.size w).alloc Nr (.cells RV 30))
 generalize(w.alloc (.cells RV 30))=w1 at*
 have z:=(T.o.cell (p:=⟨b,o+21,none⟩) hb).trans (HZ.o 21 Aa);have t:=(T.o.cell (p:=⟨b,o+22,none⟩) hb).trans (HZ.o 22 Aa);have D:=(T.o.cell (p:=⟨b,o+23,none⟩) hb).trans (HZ.o 23 Aa);obtain⟨r,qZ⟩:=AJ (GN Z 21);obtain⟨z2,qV⟩:=AJ (GN Z 22);obtain⟨z3,qU⟩:=AJ (GN Z 23);rw[qZ]at z;rw[qV]at t;rw[qU]at D;have qR:=zz qZ;have rD:=zz qV;have rA:=zz qU;clear qZ qV qU
 have qY:=zz (show Oq Z=decide (0<=r/\r<16/\0<=z2/\z2<4096/\0<=z3/\z3<4096)by unfold Oq;rw[qR.o,rD.o,rA.o])
 have E:=zz (fun(v:World) (h:CQ Z=false) (hb:Below w.heap.size w v)=>show U9 w v O Z f S (.returned (.bool false))from⟨by rw[h],by rw[Aj (by rw[h];exact Bool.false_ne_true)];exact HN.o.below hb qW,JE hb⟩)
 by_cases ht:0<=r/\r<16/\0<=z2/\z2<4096/\0<=z3/\z3<4096
 .have rX:=zz (show Oq Z=true by rw[qY.o];exact decide_eq_true ht)
  have e1:r/16=0:=Aa;have e2:z2/4096=0:=Aa;have e3:z3/4096=0:=Aa;go_wp2_with fail;obtain⟨v1,rfl⟩:∃v:Nat,r=(v:Int):=⟨r.toNat,Aa⟩;obtain⟨v2,rfl⟩:∃v:Nat,z2=(v:Int):=⟨z2.toNat,Aa⟩;obtain⟨v3,rfl⟩:∃v:Nat,z3=(v:Int):=⟨z3.toNat,Aa⟩;clear z t D e1 e2 e3 ht qY HG
  go_loopw[38] (fun i wr=>∃j:Nat,j<=4/\i=.int .i64 (j:Int)/\Ae wr w.heap.size 30 (row 12 (Bo (Ns (CZ Z).f j) (Jb (CZ Z).m j) (Jb (CZ Z).j j)))/\Below w.heap.size w wr) (fun i _=>4-(intOf i).toNat)
  .exact⟨0,Aa,rfl,U.o,T.o⟩
  clear U T;obtain⟨j,hj,rfl,rF,rQ⟩:=hrel;have U:=zz rF;have T:=zz rQ;clear rF rQ;have z:=(T.o.cell (p:=⟨b,o+21,none⟩) hb).trans (HZ.o 21 Aa);have t:=(T.o.cell (p:=⟨b,o+22,none⟩) hb).trans (HZ.o 22 Aa);have D:=(T.o.cell (p:=⟨b,o+23,none⟩) hb).trans (HZ.o 23 Aa);rw[qR.o]at z;rw[rD.o]at t;rw[rA.o]at D
  by_cases G:j<4
  .have c0:=U.o.cell j;have t0:=U.o.thaw j;have c1:=U.o.cell (4+j);have t1:=U.o.thaw (4+j);have c2:=U.o.cell (8+j);have t2:=U.o.thaw (8+j);rw[Ah Aa]at c0 c1 c2;obtain rfl|rfl|rfl|rfl:j=0\/j=1\/j=2\/j=3:=Aa
   all_goals
    simp only[Nat.reduceAdd]at c1 t1 c2 t2;go_wp2_with fail;exact⟨⟨_+1,Aa,Bb,jC (CZ Z) _ Aa U.o (by rw[Zm,qR.o];exact ku v1 _ Aa) (by rw[Zh,rD.o];exact YJ v2 _ Aa) (by rw[ZL,rA.o];exact YJ v3 _ Aa),((T.o.setCell Nr _).setCell Nr _).setCell Nr _⟩,by simp[intOf]⟩
  obtain rfl:j=4:=Aa;clear G
  rw[show((4:Nat):Int)=4 from rfl]
  have U:=zz (show Ae wr w.heap.size 30 (CZ Z).row from by rw[←jE];exact U.o)
  have ir:(prog.info? 30).map (·.size)=some (CZ Z).row.size:=by unfold RS.row;rw[Ag];kernel_rfl
  have cG:=fun w=>U6 (CZ Z).f (CZ Z).m (CZ Z).j w
  have CG:=zz (fun w=>show Calls prog 73 #[.agg (CZ Z).row] w fun e w'=>e=.returned (.bool (Sj Z))/\Below w.heap.size w w' from cG w)
  clear cG z t D;obtain⟨RR,N⟩:=AJ ((CZ Z).row);have rY:=zz N;rw[N]at U ir CG;clear N
  go_wp2_with(refine Ad rfl 30 _ rfl w.heap.size rfl U.o _ underlying30 rfl ir ?_)
  refine(CG.o _).mono ?_;rintro e s ⟨rfl,M⟩;have rW:=U;have HX:=zz (Nat.lt_of_lt_of_le rW.o.lt M.size);have U:=AU U M;have T:=CU T M;clear M CG
  cases hgu:Sj Z with
  |false=>
   have u:=zz (show CQ Z=false by unfold CQ;rw[hgu,Bool.and_false,Bool.false_and])
   clear hgu;go_wp2_with fail
   go_ret
   exact E.o _ u.o T.o
  |true=>
   have rZ:=zz hgu;clear hgu;have rE:=zz (HN.o.below T.o qW);have qX:=zz (Ae.fresh s 26 aI)
   have iA:∀F:Nat->Value,(prog.info? 26).map (·.size)=some (row 21 F).size:=fun F=>by rw[Ag];kernel_rfl
   have IA:=zz iA;have rJ:=iA fun i=>Ab f S (6+i)
   have rV:(aI:Array Value).size=(row 21 fun i=>Ab f S (6+i)).size:=by rw[Ag];rfl
   have rM:(row 21 fun i=>Ab f S (6+i)).all (·.oneCell')=true:=row_one fun i hi=>by
    have h:=Cv HF.o (A:=none) (n:=0) (c:=0);rw[Array.all_eq_true_iff_forall_mem]at h;have h1:=h (Ab f (.slice none 0 0) (6+i)) (Array.mem_of_getElem? (i:=6+i) (Ah Aa))
    unfold Ab at h1 ⊢
    rw[Aj Aa]at h1 ⊢;exact h1
   clear iA
   go_upto_region 15 with(first
    |(refine Cb rfl 26 _ rfl O 6 21 rfl rE.o Aa _ underlying26 rfl Ap ?_)
    |(refine wpList_store_row rfl 26 _ _ rfl s.heap.size (row 21 fun i=>Ab f S (6+i)) rfl rfl 26 _ qX.o rJ rV rM ?_))
   have qQ:Below s.heap.size s ((s.alloc (.cells aI 26)).setRow s.heap.size (row 21 fun j=>Ab f S (6+j))):=below_setRow (DC) Nr _;have R:=zz (qX.o.setRow (row 21 fun j=>Ab f S (6+j)));have U:=AU U qQ;have T:=CU T qQ;have sD:=U.o.lt;have sw:=T.o.size;have r9:w.heap.size<s.heap.size:=HX.o;clear qQ qX rE rJ rV rM
   generalize((s.alloc (.cells aI 26)).setRow s.heap.size (row 21 fun j=>Ab f S (6+j)))=w5 at*
   obtain⟨l,rU⟩:=AJ (s.heap.size);rw[rU]at R r9 ⊢;clear rU;have sH:=R.o.lt;go_wp2_with fail
   go_loopw[89] (fun i wr=>∃k:Nat,k<=3/\i=.int .i64 (k:Int)/\JC Z k=true/\Ae wr l 26 (row 21 fun i=>if i<k*7 then MZ Z i else Ab f S (6+i))/\Below l w5 wr) (fun i _=>3-(intOf i).toNat)
   .exact⟨0,Aa,rfl,rfl,by rw[AA (g:=fun j=>Ab f S (6+j)) (fun i hi=>Aj Aa)];exact R.o,Below.refl _ _⟩
   clear R;obtain⟨k,hk,rfl,rO,ha,M⟩:=hrel;have R:=zz ha;have H:=zz M;have rP:=zz rO;have d:=zz (T.o.trans (M.mono Aa));clear ha M rO;have HC:=zz (fun j hj=>(d.o.cell (p:=⟨b,o+j,none⟩) hb).trans (HZ.o j hj))
   by_cases G:k<3
   .have rG:=YP Z k G;have rC:Ox Z k=decide (GN Z (k*7+5)=0\/GN Z (k*7+5)=1):=rfl;obtain⟨q,hq⟩:=AJ (o+k*7)
    have hx:∀j,j<7-> wr.cell? ⟨b,q+j,none⟩=some (.int .i64 (GN Z (k*7+j))):=fun j hj=>by rw[←hq,Nat.add_assoc];exact HC.o (k*7+j) Aa
    have x0:=hx 0 Aa;have x1:=hx 1 Aa;have x2:=hx 2 Aa;have x3:=hx 3 Aa;have x4:=hx 4 Aa;have x5:=hx 5 Aa;have x6:=hx 6 Aa;rw[Nat.add_zero,Nat.add_zero]at x0
    generalize GN Z (k*7)=p0 at*
    generalize GN Z (k*7+1)=p1 at*
    generalize GN Z (k*7+2)=p2 at*
    generalize GN Z (k*7+3)=p3 at*
    generalize GN Z (k*7+4)=p4 at*
    generalize GN Z (k*7+5)=J at*
    generalize GN Z (k*7+6)=p6 at*
    have HQ:=zz hq;clear hx hq
    have C:=zz (fun(hp:J=0\/J=1)=>(show(JC Z k&&Ox Z k)=true by rw[rP.o,rC,decide_eq_true hp];rfl:JC Z (k+1)=true))
    have rH:=zz (fun(hp:¬(J=0\/J=1))=>(by unfold CQ;rw[Qi (k:=k) (by rw[rC];exact decide_eq_false hp) G,Bool.and_false]:CQ Z=false))
    have su:=zz (show ∀V V':World,V'=V.setCells l (k*7) ((AZ p0 p1 p2 p3 p4 (J==1) p6):Array Value).toList->Ae V l 26 (row 21 fun i=>if i<k*7 then MZ Z i else Ab f S (6+i))->Ae V' l 26 (row 21 fun i=>if i<(k+1)*7 then MZ Z i else Ab f S (6+i))from fun V V' e h=>by have h:=DI h (k*7) 7 (fun j=>MZ Z (k*7+j));rwa[iK Z k G,rG,←e]at h)
    have rq:=zz (Cg R.o (k*7) 7 Aa);clear rG rC;obtain rfl|rfl|rfl:k=0\/k=1\/k=2:=Aa
    all_goals go_upto_region 19 with fail
    (have e:q=o:=HQ.o.symm;subst e)
    rotate_left 1
    rw[show o+7=q from HQ.o]
    rotate_left 1
    rw[show o+14=q from HQ.o]
    all_goals
     by_cases hp:J=0\/J=1
     .have C:=zz (C.o hp)
      have hq:(J !=0)=false\/((J !=0)=true/\(J !=1)=false):=by rcases hp with rfl|rfl<;>simp
      clear hp rH
      rcases hq with q0|⟨q0,q1⟩<;>go_upto_region 21 with fail
      all_goals
       clear q0
       try clear q1
       have L:=And.intro x0 (And.intro x1 (And.intro x2 (And.intro x3 (And.intro x4 (And.intro x5 x6)))));clear x0 x1 x2 x3 x4 x5 x6;refine wp_region_noPanic ?_;refine A8 [3,6,9,12,15,18,22] (fun w'=> w'.cell? ⟨b,q,none⟩=some (.int .i64 p0)/\ w'.cell? ⟨b,q+1,none⟩=some (.int .i64 p1)/\ w'.cell? ⟨b,q+2,none⟩=some (.int .i64 p2)/\ w'.cell? ⟨b,q+3,none⟩=some (.int .i64 p3)/\ w'.cell? ⟨b,q+4,none⟩=some (.int .i64 p4)/\ w'.cell? ⟨b,q+5,none⟩=some (.int .i64 J)/\ w'.cell? ⟨b,q+6,none⟩=some (.int .i64 p6)) Ap ?_;have R:=zz R.o.drew;have H:=zz H.o.drew;have rq:=zz ((World.there_drew _ _ _ _).2 rq.o)
       have L:=(show wr.drew.cell? ⟨b,q,none⟩=some (.int .i64 p0)/\ wr.drew.cell? ⟨b,q+1,none⟩=some (.int .i64 p1)/\ wr.drew.cell? ⟨b,q+2,none⟩=some (.int .i64 p2)/\ wr.drew.cell? ⟨b,q+3,none⟩=some (.int .i64 p3)/\ wr.drew.cell? ⟨b,q+4,none⟩=some (.int .i64 p4)/\ wr.drew.cell? ⟨b,q+5,none⟩=some (.int .i64 J)/\ wr.drew.cell? ⟨b,q+6,none⟩=some (.int .i64 p6)from L)
       generalize wr.drew=V0 at*
       refine Ac 0 ?_;refine Ac 1 ?_;refine Ac 2 ?_;refine Bc 3 L ?_;refine Ac 4 ?_;refine Ac 5 ?_;refine Bc 6 L ?_;refine Ac 7 ?_;refine Ac 8 ?_;refine Bc 9 L ?_;refine Ac 10 ?_;refine Ac 11 ?_;refine Bc 12 L ?_;refine Ac 13 ?_;refine Ac 14 ?_;refine Bc 15 L ?_;refine Ac 16 ?_;refine Ac 17 ?_;refine Bc 18 L ?_;refine Ac 19 ?_;refine Ac 20 ?_;refine Ac 21 ?_;refine Bc 22 L ?_;refine Ac 23 ?_;refine Ac 24 ?_;refine Aw 25 ?_;refine AX ?_ ?_
       . kernel_rfl
       intro K hK;rw[Ao Bb];refine Mt 25 (.tmp 130) (.tmp 129) rfl l _ (AZ p0 p1 p2 p3 p4 (J==1) p6) rfl rfl rq.o Ap GR (fun V1 hV=>?_);have R:=zz (su.o _ _ hV R.o);have H:=zz (QT (Nat.le_refl l) hV H.o);clear hV;refine hK.o _ _ ?_;(try simp only[Rg.lp]);refine Bg Ap ?_ _;refine NoPanic.normal ?_;clear L;go_wp2_with fail;exact⟨⟨_+1,Aa,Bb,C.o,R.o,H.o⟩,by simp[intOf]⟩
     have q0:(J !=0)=true:=bne_iff_ne.2 Aa;have q1:(J !=1)=true:=bne_iff_ne.2 Aa;have u:=zz (rH.o hp);clear hp;go_wp2_with fail
     go_ret
     exact E.o _ u.o d.o
   obtain rfl:k=3:=Aa;clear G
   rw[show((3:Nat):Int)=3 from rfl]
   have rR:=zz (show CQ Z=true by unfold CQ;rw[rX.o,rZ.o,rP.o];rfl)
   have R:=zz (show Ae wr l 26 (row 21 (MZ Z))from by rw[←AA (f:=fun i=>if i<3*7 then MZ Z i else Ab f S (6+i)) (fun i hi=>Ao Aa)];exact R.o)
   have X:=zz (HN.o.below d.o qW);have I:=zz (U.o.below H.o Aa);have rT:=IA.o (MZ Z);have sG:=I.o.lt
   go_upto_region 23 with fail
   have R:=zz R.o.drew;have X:=zz X.o.drew;have I:=zz I.o.drew;have y:=zz (JE (row:=some O) d.o.drew);have L:=And.intro R.o I.o;refine wp_region_noPanic ?_;refine A8 [2,3] (fun w'=>Ae w' l 26 (row 21 (MZ Z))/\Ae w' w.heap.size 30 RR) Ap ?_
   generalize wr.drew=V0 at*
   refine Ac 0 ?_;refine Ac 1 ?_;refine Ba 2 (.agg (row 21 (MZ Z))) L (hy:=?_) (h:=?_)
   . (intro w' ru;exact Az 26 _ rfl _ rfl ru.1 underlying26 rfl rT)
   refine Ba 3 (.agg RR) L (hy:=?_) (h:=?_)
   . (intro w' ru;exact Az 30 _ rfl _ rfl ru.2 underlying30 rfl ir)
   refine Ac 4 ?_;refine Ac 5 ?_;refine Aw 6 ?_;refine Bt ?_;intro K hK;rw[Ao Bb];refine wp_store_mid 26 (.tmp 137) (.tmp 134) rfl O 6 (row 21 (MZ Z)) rfl rfl (by rw[Ag];exact Cg X.o 6 21 Aa) rT (row_one fun i hi=>mr Z i) ?_;have y:=zz (Df y.o (Lh V0 O (row 21 (MZ Z)).toList 6));have X:=zz (DI X.o 6 21 (MZ Z));have R:=zz (Al (w:=V0) (b':=O) Aa (row 21 (MZ Z)).toList 6 _ R.o);have I:=zz (Al (w:=V0) (b':=O) Aa (row 21 (MZ Z)).toList 6 _ I.o);clear L
   generalize(V0.setCells O 6 (row 21 (MZ Z)).toList)=V1 at*
   have L:=And.intro R.o I.o;refine hK.o _ _ L ?_;refine Ac 7 ?_;refine Ac 8 ?_;refine Aw 9 ?_;refine AX ?_ ?_
   . kernel_rfl
   intro K hK;rw[Ao Bb];have N:=rY.o;refine wp_store_mid 30 (.tmp 139) (.tmp 135) rfl O 27 RR rfl rfl (by rw[←N];exact Cg X.o 27 12 Aa) ir (by rw[←N];exact row_one fun i hi=>IQ _ _ _ _) ?_;have y:=zz (Df y.o (Lh V1 O RR.toList 27));have X:=zz (DI X.o 27 12 (Bo (CZ Z).f (CZ Z).m (CZ Z).j));rw[Xz]at X
   have X:Hid (Ae (V1.setCells O 27 RR.toList) O 37 (row 74 (Ab (EX Z f) S))):=by rw[←N];exact X
   clear N
   generalize(V1.setCells O 27 RR.toList)=V2 at*
   refine hK.o _ _ ?_;(try simp only[Rg.lp]);refine Bg Ap ?_ _;refine NoPanic.normal ?_;go_wp2_with fail
   go_ret
   exact⟨by rw[rR.o];rfl,by rw[Ao rR.o];exact X.o,y.o⟩
 have u:=zz (show CQ Z=false by unfold CQ;rw[qY.o,decide_eq_false ht,Bool.false_and,Bool.false_and])
 have hq:(r/16 !=0)=true\/(r/16=0/\(z2/4096 !=0)=true)\/(r/16=0/\z2/4096=0/\(z3/4096 !=0)=true):=by simp only[bne_iff_ne];omega
 clear U HZ ht
 rcases hq with e1|⟨e1,e2⟩|⟨e1,e2,e3⟩<;>go_wp2_with fail
 all_goals
  go_ret
  exact E.o _ u.o T.o
end Nd
end Go.Proofs.YtjobajeggllmiaaGreat
