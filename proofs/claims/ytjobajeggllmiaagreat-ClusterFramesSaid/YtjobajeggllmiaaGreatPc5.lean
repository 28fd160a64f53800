import Derived.Test.YtjobajeggllmiaaGreatPc0
import Derived.Test.YtjobajeggllmiaaGreatPc4
set_option linter.all false
set_option maxHeartbeats 100000000
set_option maxRecDepth 100000
namespace Go.Proofs.YtjobajeggllmiaaGreat
open _root_.Go.Proofs.Tryz
namespace Sm
open Go.ChangeShapes Go.WideShapes Go.ChangeAt Go.RowKit Mem SumLaw
def Yi{l:List Nat}(h:∀x∈l,x<256):∀x∈sealed l,x<256:=fun x Y=>by
 unfold sealed at Y
 rcases List.mem_append.1 Y with Z|Z
 . exact h x Z
 rw[KY]at Z
 simp at Z
 omega
def di{a b:List Nat}(Y:∀x∈a,x<256)(hb:∀x∈b,x<256)(h:((Oa a).toList==(Oa b).toList)=true):a=b:=by
 have Z:(Oa a).toList=(Oa b).toList:=by simpa using h
 unfold Oa at Z
 rw[Lib.strOfNums_toList,Lib.strOfNums_toList]at Z;refine gG Y hb (ByteArray.ext (Array.toList_inj.1 ?_));exact Z
def okB(Z:List Nat):Bool:=decide (4<=Z.length)&&decide (sealed (Z.take (Z.length-4))=Z)
def OpenAt(w w':World)(Z:List Nat)(e:Ending):Prop:=
 (okB Z=true/\∃A c,e=.returned (.tuple #[.slice A (Z.length-4) c,.bool true])/\w'.ownsRow w.heap.size 5 1 (.slice A (Z.length-4) c) (Z.length-4) (Br (Z.take (Z.length-4)))/\Below w.heap.size w w')\/
 (okB Z=false/\e=.returned (.tuple gu)/\Below w.heap.size w w')
def hor(t:Nat->Nat):Nat->Nat
 |0=>0
 |k+1=>hor t k*256+t (3-k)
def Yx(a b:Nat)(Y:a<9223372036854775808)(hb:b<9223372036854775808):bits .or .i64 (a:Int) (b:Int)=((a|||b:Nat):Int):=by
 have Z:a|||b<2 ^ 63:=Nat.or_lt_two_pow Aa Aa
 show IntKind.i64.wrap ((BitVec.ofInt 64 (a:Int)|||BitVec.ofInt 64 (b:Int)).toNat:Int)=_
 rw[BitVec.toNat_or,ofInt_u64 a Aa,ofInt_u64 b Aa,IntKind.wrap_i64];omega
def Pk(q x:Nat)(hq:q<16777216)(Z:x<256):bits .or .i64 ((q:Int)*256) (x:Int)=((q*256+x:Nat):Int):=by
 have h:=Yx (q*256) x Aa Aa
 rw[show((q*256:Nat):Int)=(q:Int)*256 by omega]at h
 rw[h]
 congr 1
 have:=Nat.two_pow_add_eq_or_of_lt (i:=8) (b:=x) Z q
 rw[show(2:Nat) ^ 8=256 from rfl]at this
 rw[Nat.mul_comm q 256];exact this.symm
def gF(t:Nat->Nat):hor t 4=((t 3*256+t 2)*256+t 1)*256+t 0:=by simp[hor]
def ou(Z:List Nat)(n:Nat)(h:Z.length=n+4):Z=Z.take n++[Z.getD n 0,Z.getD (n+1) 0,Z.getD (n+2) 0,Z.getD (n+3) 0]:=by
 conv=>lhs;rw[←List.take_append_drop n Z]
 congr 1
 apply List.ext_getElem?
 intro i;rw[List.getElem?_drop]
 have g:∀j,n+j<Z.length->Z[n+j]?=some (Z.getD (n+j) 0):=fun j Y=>by simp[List.getD,Y]
 match i with
 |0=>rw[g 0 Aa];rfl
 |1=>rw[g 1 Aa];rfl
 |2=>rw[g 2 Aa];rfl
 |3=>rw[g 3 Aa];rfl
 |i+4=>rw[List.getElem?_eq_none Aa];rfl
def nQ(Z:List Nat)(n s:Nat)(h:Z.length=n+4)(hb:∀x∈Z,x<256)(T:more 0 (Z.take n)=(s:Int))(W:s<4294967296):
  okB Z=decide (s=hor (fun i=>Z.getD (n+i) 0) 4):=by
 have t:∀i,i<4->Z.getD (n+i) 0<256:=fun i hi=>by
  have e:Z.getD (n+i) 0=Z[n+i]'Aa:=by simp[List.getD,show n+i<Z.length by omega]
  rw[e];exact hb _ (List.getElem_mem _)
 have V:=t 0 Aa;have N:=t 1 Aa;have M:=t 2 Aa;have O:=t 3 Aa;have U:Z.length-4=n:=Aa;have R:4<=Z.length:=Aa
 unfold okB
 rw[U,decide_eq_true R,Bool.true_and,gF]
 congr 1
 rw[eq_iff_iff];have Y:=ou Z n h
 unfold sealed
 rw[T,Int.toNat_natCast,KY];simp only[Nat.add_zero]at V
 constructor
 .intro e;have X:=List.append_cancel_left (e.trans Y);simp only[List.cons.injEq,and_true]at X;obtain⟨a,b,c,d⟩:=X;simp only[Nat.add_zero];omega
 intro e;refine Eq.trans ?_ Y.symm
 congr 1
 simp only[Nat.add_zero]at e;have a:s%256=Z.getD n 0:=Aa;have b:s/256%256=Z.getD (n+1) 0:=Aa;have c:s/65536%256=Z.getD (n+2) 0:=Aa;have d:s/16777216%256=Z.getD (n+3) 0:=Aa;rw[a,b,c,d]
def Qv{w:World}{B:Nat}{A:Option Addr}{n m:Nat}{Y:List Nat}(h:Rd w B 1 A m (Br Y))(U:n<=m)(X:m=Y.length):Rd w B 1 A n (Br (Y.take n)):=by
 subst X;refine⟨by simp[Br];omega,fun V=>?_⟩;obtain⟨b,o,e,hb,W⟩:=h.2 Aa;refine⟨b,o,e,hb,fun j u Z=>W j u ?_⟩;simp only[Br,List.map_take]at Z;rw[List.getElem?_take]at Z
 split at Z
 . exact Z
 cases Z
def gX(A:Option Addr)(c:Nat)(Z:List Nat)(B:Nat)(w:World)(u:B<=w.heap.size)(hA:A=none->c=0)(D:Z.length<=c)(r:c<=maxLen)(hc:Z.length<=140737488351232)(H:∀x∈Z,x<256)(hr:Rd w B 1 A Z.length (Br Z)):
  Calls prog 119 #[.slice A Z.length c] w fun e w'=>OpenAt w w' Z e:=by
 have E:=zz H;have HR:=zz hr;clear H hr
 by_cases h4:Z.length<4
 .have I:=zz (show okB Z=false by unfold okB;rw[decide_eq_false Aa];rfl)
  go_in
  go_wp2_with fail
  go_ret2
  exact .inr ⟨I.o,rfl,Below.refl _ _⟩
 obtain⟨n,hn⟩:∃n,Z.length=n+4:=⟨Z.length-4,Aa⟩;obtain⟨b,o,rfl,qU,V⟩:=HR.o.2 Aa
 have t:∀i,i<4->Z.getD (n+i) 0<256:=fun i hi=>by
  have e:Z.getD (n+i) 0=Z[n+i]'Aa:=by simp[List.getD,show n+i<Z.length by omega]
  rw[e];exact E.o _ (List.getElem_mem _)
 have N:∀i,i<4-> w.cell? ⟨b,o+(n+i),none⟩=some (.int .u8 ((Z.getD (n+i) 0:Nat):Int)):=fun i hi=>by
  rw[V _ _ (LP Z (n+i) Aa)]
  simp[List.getD,show n+i<Z.length by omega]
 have F:=N 0 Aa;have d:=N 1 Aa;have f:=N 2 Aa;have C:=N 3 Aa;have t0:=t 0 Aa;have t1:=t 1 Aa;have t2:=t 2 Aa;have t3:=t 3 Aa;clear N t V
 have HK:=zz (Qv HR.o (show n<=Z.length by omega) rfl)
 obtain⟨s,l,p⟩:=Q5 (Z.take n) (fun x N=>E.o x (List.mem_of_mem_take N));have HM:=zz l;have I:=zz (nQ Z n s hn E.o l p);clear l;generalize G:(fun i=>Z.getD (n+i) 0)=T at I
 have e0:Z.getD (n+0) 0=T 0:=by rw[←G]
 have e1:Z.getD (n+1) 0=T 1:=by rw[←G]
 have e2:Z.getD (n+2) 0=T 2:=by rw[←G]
 have e3:Z.getD (n+3) 0=T 3:=by rw[←G]
 rw[e0]at t0 F;rw[e1]at t1 d;rw[e2]at t2 f;rw[e3]at t3 C;clear e0 e1 e2 e3 G;rw[Nat.add_zero]at F;have X:(Z.take n).length=n:=Ec;have m:=LW (some ⟨b,o,none⟩) c (Z.take n) B w u Aa (fun x N=>E.o x (List.mem_of_mem_take N)) (by rw[X];exact HK.o);rw[X,HM.o]at m;have HL:=zz X;clear X
 unfold maxLen at r
 rw[hn]at D hc h4 ⊢
 go_in
 go_wp2_with fail
 go_loop[5,6] (fun v i=>∃k:Nat,k<=4/\i=.int .i64 (3-(k:Int))/\v=.int .i64 ((hor T k:Nat):Int)) (fun _ i=>(intOf i+1).toNat)
 .exact⟨0,Aa,rfl,rfl⟩
 obtain⟨k,hk,rfl,rfl⟩:=hrel;obtain rfl|rfl|rfl|rfl|rfl:k=0\/k=1\/k=2\/k=3\/k=4:=Aa
 .have U:=zz (show hor T 1=hor T 0*256+T 3 from rfl)
  have hq:hor T 0<16777216:=by simp[hor]
  generalize hor T 0=q at U hq ⊢;have O:=Pk q (T 3) hq t3;have L:=zz O;clear O;go_wp2_with fail;refine⟨⟨1,Aa,Bb,by rw[U.o];exact congrArg _ L.o⟩,by simp[intOf]⟩
 .have U:=zz (show hor T 2=hor T 1*256+T 2 from rfl)
  have hq:hor T 1<16777216:=by simp[hor];omega
  generalize hor T 1=q at U hq ⊢;have O:=Pk q (T 2) hq t2;have L:=zz O;clear O;go_wp2_with fail;refine⟨⟨2,Aa,Bb,by rw[U.o];exact congrArg _ L.o⟩,by simp[intOf]⟩
 .have U:=zz (show hor T 3=hor T 2*256+T 1 from rfl)
  have hq:hor T 2<16777216:=by simp[hor];omega
  generalize hor T 2=q at U hq ⊢;have O:=Pk q (T 1) hq t1;have L:=zz O;clear O;go_wp2_with fail;refine⟨⟨3,Aa,Bb,by rw[U.o];exact congrArg _ L.o⟩,by simp[intOf]⟩
 .have U:=zz (show hor T 4=hor T 3*256+T 0 from rfl)
  have hq:hor T 3<16777216:=by simp[hor];omega
  generalize hor T 3=q at U hq ⊢;have O:=Pk q (T 0) hq t0;have L:=zz O;clear O;go_wp2_with fail;refine⟨⟨4,Aa,Bb,by rw[U.o];exact congrArg _ L.o⟩,by simp[intOf]⟩
 generalize hor T 4=q at I ⊢;have J:Hid (okB Z=decide (s=q)):=I
 by_cases W:s=q
 .have M:Hid (okB Z=true):=zz (J.o.trans (by simp[W]))
  have z:((q:Int)!=(s:Int))=false:=by simp[W]
  have qQ:((q:Int)==(s:Int))=true:=by simp[W]
  subst W
  go_wp2_with(first
   |(go_at_call 72;refine m.mono ?_;rintro e w1 ⟨rfl,Y⟩)
   |(at_builtin;refine Aq _ rfl (.tmp 32) (.tmp 35) 74 rfl (base:=w.heap.size) Dm rfl (World.ownsRow_made _ _ _ Y.size GX rfl) rfl Bq ((HK.o.below (Y.mono u)).alloc (Nat.le_trans u Y.size) _) (EY _) GX Aa (Nat.le_trans Y.size Bq) ?_;intro A2 c2 w2 qR R y))
  simp only[List.nil_append,Nat.zero_add]at R;have j:=Below.grown (Y.alloc Y.size _) y (by have:=Y.size;simp;omega) (fun g e=>by have e:some w1.heap.size=some g:=e;injection e with e;have:=Y.size;omega)
  have HE:=zz (show Z.length-4=n by omega)
  go_ret2
  exact .inl ⟨M.o,A2,c2,by rw[HE.o];rfl,by rw[HE.o];exact R,j⟩
 have M:Hid (okB Z=false):=zz (J.o.trans (by simp[W]));have z:((q:Int)!=(s:Int))=true:=Ec;clear W
 go_wp2_with(first
  |(go_at_call 72;refine m.mono ?_;rintro e w1 ⟨rfl,Y⟩))
 go_ret2
 exact .inr ⟨M.o,rfl,Y⟩
def WO(A:Option Addr)(c:Nat)(W:List Nat)(B:Nat)(w:World)(E:B<=w.heap.size)(D:A=none->c=0)(y:W.length<=c)(f:c<=maxLen)(hc:W.length<=140737488351232)(I:∀x∈W,x<256)(b:Rd w B 1 A W.length (Br W)):
  Calls prog 81 #[.slice A W.length c] w fun e w'=>OpenAt w w' W e:=by
 have t:=zz I;have HR:=zz b;clear I b
 by_cases h4:W.length<4
 .have R:=zz (show okB W=false by unfold okB;rw[decide_eq_false Aa];rfl)
  have hd:decide ((W.length:Int)<4)=true:=Ec
  go_in
  go_wp2_with fail
  go_quiet (fail)
  go_wp2_with fail
  go_ret2
  exact .inr ⟨R.o,rfl,below_drewN (Below.refl _ _) _⟩
 obtain⟨n,k⟩:∃n,W.length=n+4:=⟨W.length-4,Aa⟩
 have HK:=zz (Qv HR.o (show n<=W.length by omega) rfl)
 have T:(W.take n).length=n:=Ec;have u:=fun w' (hb:Below w.heap.size w w')=>OZ A c (W.take n) B w' (Nat.le_trans E hb.size) D Aa Aa (fun x s=>t.o x (List.mem_of_mem_take s)) (by rw[T];exact HK.o.below (hb.mono E));rw[T]at u
 have d:=zz (show W.length-4=n by omega)
 have R:=zz (show okB W=decide (sealed (W.take n)=W)by unfold okB;rw[decide_eq_true Aa,d.o];rfl)
 obtain⟨F,N⟩:=AJ (Oa W);obtain⟨C,O⟩:=AJ (Oa (sealed (W.take n)));have G:=zz (fun w' (hb:Below w.heap.size w w')=>Y0 (c:=c) (fun e=>by have:=D e;omega) k.symm (k▸HR.o.below (hb.mono E)));have J:=fun {w':World} {base:Nat} {j:Option Addr} {p:Nat} (h:w'.ownsRow base 5 1 (.slice j (sealed (W.take n)).length p) (sealed (W.take n)).length (Br (sealed (W.take n))))=>dZ rfl h;rw[N]at G;rw[O]at J
 have r:(okB W=true/\C=F)\/(okB W=false/\(C.toList==F.toList)=false):=by
  by_cases h:sealed (W.take n)=W
  . exact .inl ⟨R.o.trans (by simp[h]),by rw[←N,←O,h]⟩
  refine .inr ⟨R.o.trans (by simp[h]),?_⟩
  by_cases hb:(C.toList==F.toList)=true
  . exact absurd (di (Yi (fun x s=>t.o x (List.mem_of_mem_take s))) t.o (by rw[N,O];exact hb)) h
  exact(Bool.not_eq_true _).mp hb
 clear T N O R;have hd:decide ((n:Int)+4<4)=false:=Ec
 unfold maxLen at f
 rw[k]at y hc h4 ⊢;have X:Below w.heap.size w w.drew:=(Below.refl _ _).drew;have M:=G.o _ X;have s1:IntKind.i64.wrap (n:Int)=(n:Int):=IntWalk.i64_in (n:Int) Aa
 have s2:IntKind.i64.wrap ((n:Int)+4-4)=(n:Int):=by rw[Int.add_sub_cancel];exact s1
 have s3:(0:Int)<=(n:Int):=Aa;have s4:(n:Int)<=(c:Int):=Aa;have s5:(n:Int).toNat=n:=Int.toNat_natCast n;clear h4
 rcases r with⟨H,rfl⟩|⟨H,qR⟩
 .have R:=zz H;clear H
  go_in
  go_wp2_with fail;refine wp_region_noPanic ?_;refine wp_region_held_drew (S:=fun w'=>(convert 74 9 (.slice A (n+4) c)).run prog w'=.ok (.string C) w') Ap M (fun Y=>?_);refine wpAnyH_take (i:=0) (oi:=⟨some 4,.move (.tmp 0),_,_,_,none⟩) (v:=?_) rfl Ap Ap Ap (fun _ _ _ h=>h) (Or.inl ⟨Bb,?_⟩) Mh ?_;rotate_left 1
  . (intro w Z;(try dsimp only at Z);go_simp;(try with_reducible rfl))
  (try simp only[Rg.lp]);refine wpAnyH_take (i:=1) (oi:=⟨some 5,.call { callee:=.builtin .len,args:=#[.tmp 4],argTypes:=_ },_,_,_,none⟩) (v:=?_) rfl Ap Ap Ap (fun _ _ _ h=>h) (Or.inl ⟨Bb,?_⟩) Mh ?_;rotate_left 1
  . (intro w Z;(try dsimp only at Z);go_simp;(try with_reducible rfl))
  (try simp only[Rg.lp]);refine wpAnyH_take (i:=2) (oi:=⟨some 6,.binOp .lss 3 (.tmp 5) (.const (.int .i64 4)) 3,_,_,_,none⟩) (v:=?_) rfl Ap Ap Ap (fun _ _ _ h=>h) (Or.inl ⟨Bb,?_⟩) Mh ?_;rotate_left 1
  . (intro w Z;(try dsimp only at Z);go_simp;(try with_reducible rfl))
  (try simp only[Rg.lp]);refine wpAnyH_take (i:=3) (oi:=⟨some 7,.move (.tmp 6),_,_,_,none⟩) (v:=?_) rfl Ap Ap Ap (fun _ _ _ h=>h) (Or.inl ⟨Bb,?_⟩) Mh ?_;rotate_left 1
  . (intro w Z;(try dsimp only at Z);go_simp;(try with_reducible rfl))
  (try simp only[Rg.lp]);refine wpAnyH_take (i:=4) (oi:=⟨some 8,.move (.tmp 0),_,_,_,some (3,false)⟩) (v:=?_) rfl Ap Ap Ap (fun _ _ _ h=>h) (Or.inl ⟨Bb,?_⟩) Mh ?_;rotate_left 1
  . (intro w Z;(try dsimp only at Z);go_simp;(try with_reducible rfl))
  (try simp only[Rg.lp]);refine wpAnyH_take (i:=5) (oi:=⟨some 9,.move (.tmp 0),_,_,_,some (3,false)⟩) (v:=?_) rfl Ap Ap Ap (fun _ _ _ h=>h) (Or.inl ⟨Bb,?_⟩) Mh ?_;rotate_left 1
  . (intro w Z;(try dsimp only at Z);go_simp;(try with_reducible rfl))
  (try simp only[Rg.lp]);refine wpAnyH_take (i:=6) (oi:=⟨some 10,.call { callee:=.builtin .len,args:=#[.tmp 9],argTypes:=_ },_,_,_,some (3,false)⟩) (v:=?_) rfl Ap Ap Ap (fun _ _ _ h=>h) (Or.inl ⟨Bb,?_⟩) Mh ?_;rotate_left 1
  . (intro w Z;(try dsimp only at Z);go_simp;(try with_reducible rfl))
  (try simp only[Rg.lp]);refine wpAnyH_take (i:=7) (oi:=⟨some 11,.binOp .sub 3 (.tmp 10) (.const (.int .i64 4)) 3,_,_,_,some (3,false)⟩) (v:=?_) rfl Ap Ap Ap (fun _ _ _ h=>h) (Or.inl ⟨Bb,?_⟩) Mh ?_;rotate_left 1
  . (intro w Z;(try dsimp only at Z);go_simp;(try with_reducible rfl))
  (try simp only[Rg.lp]);refine wpAnyH_take (i:=8) (oi:=⟨some 12,.slice 74 (.tmp 8) none (some (.tmp 11)) none,_,_,_,some (3,false)⟩) (v:=?_) rfl Ap Ap Ap (fun _ _ _ h=>h) (Or.inl ⟨Bb,?_⟩) Mh ?_;rotate_left 1
  . (intro w Z;(try dsimp only at Z);go_simp;(try with_reducible rfl))
  (try simp only[Rg.lp]);refine wpAnyH_take (i:=11) (oi:=⟨some 15,.move (.tmp 0),_,_,_,some (3,false)⟩) (v:=?_) rfl Ap Ap Ap (fun _ _ _ h=>h) (Or.inl ⟨Bb,?_⟩) Mh ?_;rotate_left 1
  . (intro w Z;(try dsimp only at Z);go_simp;(try with_reducible rfl))
  (try simp only[Rg.lp]);refine wpAnyH_take (i:=12) (oi:=⟨some 16,.convert 74 9 (.tmp 15),_,_,_,some (3,false)⟩) (v:=?_) rfl Ap Ap Ap (fun _ _ _ h=>h) (Or.inl ⟨Bb,?_⟩) Mh ?_;rotate_left 1
  . (intro w Z;(try dsimp only at Z);go_simp;(try with_reducible rfl))
  (try simp only[Rg.lp]);refine wpAnyH_ready (rs:=[9]) Ap Bq ?_;refine AllReadyH.cons (o:={ dst:=some 13,op:=Op.call { callee:=Callee.value (Operand.func 80),args:=#[Operand.tmp 12],argTypes:=#[74] },type:=74,pos:= "links.go:42",after:=#[{ on:=8,ground:=Ground.data },{ on:=3,ground:=Ground.chain },{ on:=3,ground:=Ground.guard }],guard:=some (3,false) }) rfl (fun K hK=>?_) AllReadyH.nil;go_simp
  go_at_call 80
  refine(u _ X).mono ?_;rintro e w1 ⟨j,p,rfl,V,L⟩;have X:=Bh X Nr L;have M:=G.o _ X;have z:=J V;go_wp2_with fail;refine hK.o _ _ M (fun Y=>?_);(try simp only[Rg.lp]);refine Rg.pin Y (fun Y=>?_);refine wpAnyH_take (i:=10) (oi:=⟨some 14,.convert 74 9 (.tmp 13),_,_,_,some (3,false)⟩) (v:=?_) rfl Ap Ap Ap (fun _ _ _ h=>h) (Or.inl ⟨Bb,?_⟩) Mh ?_;rotate_left 1
  . (intro w Z;(try dsimp only at Z);subst Z;go_simp;(try with_reducible rfl))
  (try simp only[Rg.lp]);refine wpAnyH_take (i:=13) (oi:=⟨some 17,.binOp .neq 9 (.tmp 14) (.tmp 16) 9,_,_,_,some (3,false)⟩) (v:=?_) rfl Ap Ap Ap (fun _ _ _ h=>h) (Or.inl ⟨Bb,?_⟩) Mh ?_;rotate_left 1
  . (intro w Z;(try dsimp only at Z);subst Z;go_simp;(try with_reducible rfl))
  (try simp only[Rg.lp]);refine wpAnyH_take (i:=14) (oi:=⟨some 18,.pick (.tmp 7) (.const (.bool true)) (.tmp 17),_,_,_,none⟩) (v:=?_) rfl Ap Ap Ap (fun _ _ _ h=>h) (Or.inl ⟨Bb,?_⟩) Mh ?_;rotate_left 1
  . (intro w Z;(try dsimp only at Z);subst Z;go_simp;(try with_reducible rfl))
  (try simp only[Rg.lp]);refine wpAnyH_done Ap ?_ _;refine NoPanic.normal ?_;clear M z Y;have l:=zz (HK.o.below (X.mono E))
  go_wp2_with(at_builtin;refine Aq _ rfl (.const (.slice none 0 0)) (.tmp 23) 74 rfl (base:=w.heap.size) Dm rfl (World.ownsRow_nil _ _ _ _) rfl (fun h=>⟨by have:=D h;omega,D h⟩) l.o (EY _) GX Aa X.size ?_;intro A2 c2 w2 qQ U q)
  simp only[List.nil_append,Nat.zero_add]at U;have m:=Below.grown X q X.size (by intro g e;cases e);go_wp2_with fail
  go_ret2
  exact .inl ⟨R.o,A2,c2,by rw[d.o];rfl,by rw[d.o];exact U,m⟩
 have R:=zz H;clear H
 go_in
 go_wp2_with fail;refine wp_region_noPanic ?_;refine wp_region_held_drew (S:=fun w'=>(convert 74 9 (.slice A (n+4) c)).run prog w'=.ok (.string F) w') Ap M (fun Y=>?_);refine wpAnyH_take (i:=0) (oi:=⟨some 4,.move (.tmp 0),_,_,_,none⟩) (v:=?_) rfl Ap Ap Ap (fun _ _ _ h=>h) (Or.inl ⟨Bb,?_⟩) Mh ?_;rotate_left 1
 . (intro w Z;(try dsimp only at Z);go_simp;(try with_reducible rfl))
 (try simp only[Rg.lp]);refine wpAnyH_take (i:=1) (oi:=⟨some 5,.call { callee:=.builtin .len,args:=#[.tmp 4],argTypes:=_ },_,_,_,none⟩) (v:=?_) rfl Ap Ap Ap (fun _ _ _ h=>h) (Or.inl ⟨Bb,?_⟩) Mh ?_;rotate_left 1
 . (intro w Z;(try dsimp only at Z);go_simp;(try with_reducible rfl))
 (try simp only[Rg.lp]);refine wpAnyH_take (i:=2) (oi:=⟨some 6,.binOp .lss 3 (.tmp 5) (.const (.int .i64 4)) 3,_,_,_,none⟩) (v:=?_) rfl Ap Ap Ap (fun _ _ _ h=>h) (Or.inl ⟨Bb,?_⟩) Mh ?_;rotate_left 1
 . (intro w Z;(try dsimp only at Z);go_simp;(try with_reducible rfl))
 (try simp only[Rg.lp]);refine wpAnyH_take (i:=3) (oi:=⟨some 7,.move (.tmp 6),_,_,_,none⟩) (v:=?_) rfl Ap Ap Ap (fun _ _ _ h=>h) (Or.inl ⟨Bb,?_⟩) Mh ?_;rotate_left 1
 . (intro w Z;(try dsimp only at Z);go_simp;(try with_reducible rfl))
 (try simp only[Rg.lp]);refine wpAnyH_take (i:=4) (oi:=⟨some 8,.move (.tmp 0),_,_,_,some (3,false)⟩) (v:=?_) rfl Ap Ap Ap (fun _ _ _ h=>h) (Or.inl ⟨Bb,?_⟩) Mh ?_;rotate_left 1
 . (intro w Z;(try dsimp only at Z);go_simp;(try with_reducible rfl))
 (try simp only[Rg.lp]);refine wpAnyH_take (i:=5) (oi:=⟨some 9,.move (.tmp 0),_,_,_,some (3,false)⟩) (v:=?_) rfl Ap Ap Ap (fun _ _ _ h=>h) (Or.inl ⟨Bb,?_⟩) Mh ?_;rotate_left 1
 . (intro w Z;(try dsimp only at Z);go_simp;(try with_reducible rfl))
 (try simp only[Rg.lp]);refine wpAnyH_take (i:=6) (oi:=⟨some 10,.call { callee:=.builtin .len,args:=#[.tmp 9],argTypes:=_ },_,_,_,some (3,false)⟩) (v:=?_) rfl Ap Ap Ap (fun _ _ _ h=>h) (Or.inl ⟨Bb,?_⟩) Mh ?_;rotate_left 1
 . (intro w Z;(try dsimp only at Z);go_simp;(try with_reducible rfl))
 (try simp only[Rg.lp]);refine wpAnyH_take (i:=7) (oi:=⟨some 11,.binOp .sub 3 (.tmp 10) (.const (.int .i64 4)) 3,_,_,_,some (3,false)⟩) (v:=?_) rfl Ap Ap Ap (fun _ _ _ h=>h) (Or.inl ⟨Bb,?_⟩) Mh ?_;rotate_left 1
 . (intro w Z;(try dsimp only at Z);go_simp;(try with_reducible rfl))
 (try simp only[Rg.lp]);refine wpAnyH_take (i:=8) (oi:=⟨some 12,.slice 74 (.tmp 8) none (some (.tmp 11)) none,_,_,_,some (3,false)⟩) (v:=?_) rfl Ap Ap Ap (fun _ _ _ h=>h) (Or.inl ⟨Bb,?_⟩) Mh ?_;rotate_left 1
 . (intro w Z;(try dsimp only at Z);go_simp;(try with_reducible rfl))
 (try simp only[Rg.lp]);refine wpAnyH_take (i:=11) (oi:=⟨some 15,.move (.tmp 0),_,_,_,some (3,false)⟩) (v:=?_) rfl Ap Ap Ap (fun _ _ _ h=>h) (Or.inl ⟨Bb,?_⟩) Mh ?_;rotate_left 1
 . (intro w Z;(try dsimp only at Z);go_simp;(try with_reducible rfl))
 (try simp only[Rg.lp]);refine wpAnyH_take (i:=12) (oi:=⟨some 16,.convert 74 9 (.tmp 15),_,_,_,some (3,false)⟩) (v:=?_) rfl Ap Ap Ap (fun _ _ _ h=>h) (Or.inl ⟨Bb,?_⟩) Mh ?_;rotate_left 1
 . (intro w Z;(try dsimp only at Z);go_simp;(try with_reducible rfl))
 (try simp only[Rg.lp]);refine wpAnyH_ready (rs:=[9]) Ap Bq ?_;refine AllReadyH.cons (o:={ dst:=some 13,op:=Op.call { callee:=Callee.value (Operand.func 80),args:=#[Operand.tmp 12],argTypes:=#[74] },type:=74,pos:= "links.go:42",after:=#[{ on:=8,ground:=Ground.data },{ on:=3,ground:=Ground.chain },{ on:=3,ground:=Ground.guard }],guard:=some (3,false) }) rfl (fun K hK=>?_) AllReadyH.nil;go_simp
 go_at_call 80
 refine(u _ X).mono ?_;rintro e w1 ⟨j,p,rfl,V,L⟩;have X:=Bh X Nr L;have M:=G.o _ X;have z:=J V;go_wp2_with fail;refine hK.o _ _ M (fun Y=>?_);(try simp only[Rg.lp]);refine Rg.pin Y (fun Y=>?_);refine wpAnyH_take (i:=10) (oi:=⟨some 14,.convert 74 9 (.tmp 13),_,_,_,some (3,false)⟩) (v:=?_) rfl Ap Ap Ap (fun _ _ _ h=>h) (Or.inl ⟨Bb,?_⟩) Mh ?_;rotate_left 1
 . (intro w Z;(try dsimp only at Z);subst Z;go_simp;(try with_reducible rfl))
 (try simp only[Rg.lp]);refine wpAnyH_take (i:=13) (oi:=⟨some 17,.binOp .neq 9 (.tmp 14) (.tmp 16) 9,_,_,_,some (3,false)⟩) (v:=?_) rfl Ap Ap Ap (fun _ _ _ h=>h) (Or.inl ⟨Bb,?_⟩) Mh ?_;rotate_left 1
 . (intro w Z;(try dsimp only at Z);subst Z;go_simp;(try with_reducible rfl))
 (try simp only[Rg.lp]);refine wpAnyH_take (i:=14) (oi:=⟨some 18,.pick (.tmp 7) (.const (.bool true)) (.tmp 17),_,_,_,none⟩) (v:=?_) rfl Ap Ap Ap (fun _ _ _ h=>h) (Or.inl ⟨Bb,?_⟩) Mh ?_;rotate_left 1
 . (intro w Z;(try dsimp only at Z);subst Z;go_simp;(try with_reducible rfl))
 (try simp only[Rg.lp]);refine wpAnyH_done Ap ?_ _;refine NoPanic.normal ?_;clear M z Y;go_wp2_with fail
 go_ret2
 exact .inr ⟨R.o,rfl,X⟩
end Sm
namespace Ms
open Go.ChangeShapes Go.WideShapes Go.ChangeAt Go.RowKit Mem
def Lu(k f n:Int)(A:Option Addr)(l c:Nat)(w:World)(Z:l<=140737488355328):
  Calls prog 97 #[Jg k f n A l c] w fun e w'=>e=.returned (.int .i64 (wrong k f n l))/\Below w.heap.size w w':=by
 unfold Jg
 go_in
 go_wp2_with fail
 all_goals
  go_ret
  refine⟨Ik ?_,DC⟩
  unfold wrong
  (repeat' split)<;>omega
def Nu(k f n:Int)(A:Option Addr)(l c:Nat)(w:World)(Z:l<=140737488355328):
  Calls prog 78 #[Jg k f n A l c] w fun e w'=>e=.returned (.int .i64 (wrong k f n l))/\Below w.heap.size w w':=by
 unfold Jg
 go_in
 go_wp2_with fail
 all_goals
  go_ret
  refine⟨Ik ?_,DC⟩
  unfold wrong
  (repeat' split)<;>omega
end Ms
namespace Ms
open Go.ChangeShapes Go.WideShapes Go.ChangeAt Go.RowKit Mem
def Ef(Z:List Nat)(i:Nat):Nat:=Z.getD i 0
def Dn(Z:List Nat)(o:Nat):Nat->Nat
 |0=>0
 |n+1=>Dn Z o n*256+Ef Z (o+n)
def JA{Z:List Nat}(h:∀x∈Z,x<256)(i:Nat):Ef Z i<256:=by
 unfold Ef
 rw[List.getD_eq_getElem?_getD]
 cases e:Z[i]? with
 |none=>simp
 |some x=>exact h x (List.mem_of_getElem? e)
def Nc{Z:List Nat}(h:∀x∈Z,x<256)(o:Nat):∀n,Dn Z o n<256 ^ n
 |0=>Nat.zero_lt_one
 |n+1=>by
  have X:=Nc h o n;have Y:=JA h (o+n)
  unfold Dn
  rw[Nat.pow_succ];omega
def GQ(n:Nat):Int:=IntKind.i64.wrap (n:Int)
def wrap_small{x:Int}(Z:0<=x)(Y:x<9223372036854775808):IntKind.i64.wrap x=x:=by rw[IntKind.wrap_i64];omega
def N9{x:Int}(h:0<=x/\x<18446744073709551616):IntKind.u64.wrap x=x:=by rw[Cz];exact Int.emod_eq_of_lt h.1 h.2
def fH(V y:Nat)(T:V<72057594037927936)(hy:y<256){P U:Int}(Z:IntKind.u64.wrap ((V:Int)*256)=P)(X:IntKind.u64.wrap (P+(y:Int))=U):U=((V*256+y:Nat):Int):=by
 have W:=N9 (x:=(V:Int)*256) Aa;rw[Z]at W;have Y:=N9 (x:=P+(y:Int)) Aa;rw[X]at Y;omega
def Yh{n:Nat}(h:n<9223372036854775808):GQ n=(n:Int):=by unfold GQ;rw[IntKind.wrap_i64];omega
def Oz(X c:Nat)(Y:X<18446744073709551616)(W:X%256=0)(Z:c<256):(BitVec.ofNat 64 X|||BitVec.ofNat 64 c).toNat=X+c:=by
 rw[BitVec.toNat_or,BitVec.toNat_ofNat,BitVec.toNat_ofNat,Nat.mod_eq_of_lt (show X<2 ^ 64 from Y),Nat.mod_eq_of_lt (show c<2 ^ 64 from Nat.lt_of_lt_of_le Z El)]
 obtain⟨q,hq⟩:∃q,X=2 ^ 8*q:=⟨X/256,Aa⟩
 rw[hq,←Nat.two_pow_add_eq_or_of_lt (show c<2 ^ 8 from Z)]
def Sv(x:Int)(n:Nat)(h:x%18446744073709551616=(n:Int)%18446744073709551616):BitVec.ofInt 64 x=BitVec.ofNat 64 n:=by
 apply BitVec.eq_of_toNat_eq
 rw[BitVec.toNat_ofInt,BitVec.toNat_ofNat];have Z:x%((2 ^ 64:Nat):Int)=(n:Int)%((2 ^ 64:Nat):Int):=h;rw[Z,←Int.natCast_emod,Int.toNat_natCast]
def ZJ(x:Int):(IntKind.i64.wrap x)%18446744073709551616=x%18446744073709551616:=by rw[IntKind.wrap_i64];omega
def iq{x y:Int}(h:x%18446744073709551616=y%18446744073709551616):IntKind.i64.wrap x=IntKind.i64.wrap y:=by
 rw[IntKind.wrap_i64,IntKind.wrap_i64];omega
def Xm(V c:Nat)(R:c<256):bits .or .i64 (IntKind.i64.wrap (GQ V*256)) (c:Int)=GQ (V*256+c):=by
 obtain⟨X,U⟩:=AJ (V*256%18446744073709551616)
 have W:X<18446744073709551616:=by rw[←U];exact Nat.mod_lt _ El
 have Z:X%256=0:=Aa;have O:=ZJ (V:Int)
 have T:(IntKind.i64.wrap (GQ V*256))%18446744073709551616=(X:Int)%18446744073709551616:=by
  rw[ZJ]
  unfold GQ
  omega
 have Y:BitVec.ofInt 64 (c:Int)=BitVec.ofNat 64 c:=Sv _ _ rfl
 show IntKind.i64.wrap ((BitVec.ofInt 64 (IntKind.i64.wrap (GQ V*256))|||BitVec.ofInt 64 (c:Int)).toNat:Nat)=_
 rw[Sv _ _ T,Y,Oz X c W Z R]
 unfold GQ
 refine iq ?_;omega
def E5(Z:List Nat):Nat:=Ef Z 7
def Ka(Z:List Nat)(k:Nat):List Int:=(List.range k).map fun i=>GQ (Dn Z (8+8*i) 8)
def dx(Z:List Nat)(k:Nat):Ka Z (k+1)=Ka Z k++[GQ (Dn Z (8+8*k) 8)]:=by simp[Ka,List.range_succ]
def Qs(Z:List Nat)(k:Nat):(Ka Z k).length=k:=by simp[Ka]
def GU(Z:List Nat):Int:=
 if 220<Z.length then 1 else if Z.length<12\/Ef Z 0≠87 then 2 else if Sm.okB Z=false then 5 else if 24<E5 Z then 6 else if Z.length≠12+8*E5 Z then 2 else wrong (Ef Z 1) (Ef Z 2) (Dn Z 3 4) (E5 Z)
def FX(w w':World)(Z:List Nat)(e:Ending):Prop:=
 if GU Z=0 then ∃A c,e=.returned (.tuple #[Jg (Ef Z 1) (Ef Z 2) (Dn Z 3 4) A (E5 Z) c,.int .i64 0])/\w'.ownsRow w.heap.size 3 1 (.slice A (E5 Z) c) (E5 Z) (AQ (Ka Z (E5 Z)))/\Below w.heap.size w w'
 else e=.returned (.tuple #[Jg 0 0 0 none 0 0,.int .i64 (GU Z)])/\Below w.heap.size w w'
end Ms
end Go.Proofs.YtjobajeggllmiaaGreat
