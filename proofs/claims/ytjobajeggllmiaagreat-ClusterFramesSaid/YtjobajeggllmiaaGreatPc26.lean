import Derived.Test.YtjobajeggllmiaaGreatPc0
import Derived.Test.YtjobajeggllmiaaGreatPc25
set_option linter.all false
set_option maxHeartbeats 100000000
set_option maxRecDepth 100000
namespace Go.Proofs.YtjobajeggllmiaaGreat
open Ms Rg _root_.Go.Proofs.Tryz
namespace BigW
open Go.RowKit Mem BigLaw
def KG(s:St)(Y q r Z z:Int):St×Bool:=update (Ie s Y q) z r Z
def kI{s:St}(h:Mi s)(Y q r Z z:Int):Mi (KG s Y q r Z z).1:=dA (MJ h Y q) z r Z
def Rq(Y q r Z:Int):Array Value:=(Bn Y q r Z)
end BigW
namespace BigW
open Go.RowKit Mem BigLaw Rws
def av(s:St)(M q r Y z:Int)(w:World)(i:Mi s)(I:In64 M)(G:In64 q)(F:In64 r)(L:In64 Y)(D:In64 z):
  Calls prog 43 #[SI s,.agg (Rq M q r Y),.int .i64 z] w fun e w'=>Ps w w' (KG s M q r Y z) e:=by
 obtain⟨X,V,U,R,T,W,Z⟩:=s
 unfold SI ME Rq
 obtain⟨⟨u,k,c,l,t,v,b⟩,A⟩:∃p,Ie ⟨X,V,U,R,T,W,Z⟩ M q=p:=⟨_,rfl⟩;have HP:=zz A
 have HI:=zz (show Mi ⟨u,k,c,l,t,v,b⟩from by rw[←A];exact MJ i M q)
 obtain⟨⟨⟨QX,n,d,j,QC,g,qm⟩,qt⟩,hq⟩:∃p,update ⟨u,k,c,l,t,v,b⟩ z r Y=p:=⟨_,rfl⟩;have HQ:=zz hq
 have HF:=zz (show KG ⟨X,V,U,R,T,W,Z⟩ M q r Y z=(⟨QX,n,d,j,QC,g,qm⟩,qt)from by unfold KG;rw[A,hq])
 have f:=zz i;have HD:=zz I;have HK:=zz G;have HL:=zz F;have HG:=zz L;have HZ:=zz D;clear A hq i I G F L D
 go_in
 go_upto_region 1 with fail
 have E:=zz (show Below w.heap.size w (((w.alloc (.cells (AZ X V U R T W Z) 25)).alloc (.cells (Bn M q r Y) 23)).alloc (.cells VD 25)).drew from(((DC).alloc Bq _).alloc Ec _).drew)
 have N:=zz (show Ae (((w.alloc (.cells (AZ X V U R T W Z) 25)).alloc (.cells (Bn M q r Y) 23)).alloc (.cells VD 25)).drew w.heap.size 25 (AZ X V U R T W Z)from(((Ae.new rfl).alloc _).alloc _).drew)
 have O:=zz (show Ae (((w.alloc (.cells (AZ X V U R T W Z) 25)).alloc (.cells (Bn M q r Y) 23)).alloc (.cells VD 25)).drew (w.heap.size+1) 23 (Bn M q r Y)from((Ae.new Bq).alloc _).drew)
 have H:=zz (show Ae (((w.alloc (.cells (AZ X V U R T W Z) 25)).alloc (.cells (Bn M q r Y) 23)).alloc (.cells VD 25)).drew (w.heap.size+1+1) 25 VD from(Ae.new Bq).drew)
 refine wp_region_noPanic ?_
 generalize(((w.alloc (.cells (AZ X V U R T W Z) 25)).alloc (.cells (Bn M q r Y) 23)).alloc (.cells VD 25))=B at*
 obtain⟨gr,qQ⟩:=AJ (w.heap.size+1+1);rw[qQ]at H ⊢;obtain⟨C,y⟩:=AJ (w.heap.size+1);rw[y]at O ⊢;have J:=And.intro N.o (And.intro ((Ae.cell O.o 0).trans rfl) (And.intro ((Ae.cell O.o 1).trans rfl) (And.intro ((Ae.cell O.o 2).trans rfl) ((Ae.cell O.o 3).trans rfl))));refine A8 [0,2,4,8,10] (fun w'=>Ae w' w.heap.size 25 (AZ X V U R T W Z)/\ w'.cell? ⟨C,0,none⟩=some (.int .i64 M)/\ w'.cell? ⟨C,1,none⟩=some (.int .i64 q)/\ w'.cell? ⟨C,2,none⟩=some (.int .i64 r)/\ w'.cell? ⟨C,3,none⟩=some (.int .i64 Y)) Ap ?_
 generalize B.drew=B at*
 refine Ba 0 (.agg (AZ X V U R T W Z)) J (hy:=?_) (h:=?_)
 . (intro w' m;exact Ni 25 (.tmp 3) rfl w.heap.size rfl m.1 underlying25 rfl Ap)
 refine Ac 1 ?_;refine Bc 2 J ?_;refine Ac 3 ?_;refine Bc 4 J ?_;refine Ac 6 ?_;refine Ac 7 ?_;refine Bc 8 J ?_;refine Ac 9 ?_;refine Bc 10 J ?_;refine Aw 5 ?_;refine Bt ?_;intro K hK;rw[Ao Bb];go_simp
 go_at_call 71
 refine(Vm ⟨X,V,U,R,T,W,Z⟩ M q _ f.o HD.o HK.o).mono ?_;rintro e B ⟨rfl,hb⟩;rw[HP.o];simp only[SI,ME];have N:=AU N hb;have O:=AU O hb;have H:=AU H hb;have E:=CU E hb;clear hb J;have J:=And.intro N.o (And.intro ((Ae.cell O.o 0).trans rfl) (And.intro ((Ae.cell O.o 1).trans rfl) (And.intro ((Ae.cell O.o 2).trans rfl) ((Ae.cell O.o 3).trans rfl))));go_wp2_with fail;refine hK.o _ _ J ?_;refine Aw 11 ?_;refine AX ?_ ?_
 . kernel_rfl
 intro K hK;rw[Ao Bb];go_simp
 go_at_call 70
 refine(XE ⟨u,k,c,l,t,v,b⟩ z r Y _ HI.o HZ.o HL.o HG.o).mono ?_;rintro e B ⟨rfl,hb⟩;rw[HQ.o];simp only[SI,ME];have N:=AU N hb;have O:=AU O hb;have H:=AU H hb;have E:=CU E hb;clear hb J;have J:=And.intro N.o (And.intro ((Ae.cell O.o 0).trans rfl) (And.intro ((Ae.cell O.o 1).trans rfl) (And.intro ((Ae.cell O.o 2).trans rfl) ((Ae.cell O.o 3).trans rfl))));go_wp2_with fail;refine hK.o _ _ ?_;refine Ac 12 ?_;refine Ac 13 ?_;refine Aw 14 ?_;refine AX ?_ ?_
 . kernel_rfl
 intro K hK;rw[Ao Bb];refine wp_store_row 25 _ _ rfl gr (AZ QX n d j QC g qm) rfl rfl 25 _ H.o Ap rfl GR ?_;refine hK.o _ _ ?_;refine Ac 15 ?_;refine Bg Ap ?_ _;refine NoPanic.normal ?_;clear J;go_wp2_with fail;refine Ci (x:=.bool qt) rfl rfl rfl (H.o.setRow (AZ QX n d j QC g qm)) ⟨by rw[underlying25],Ap⟩ rfl ?_;rw[HF.o];exact⟨rfl,below_setRow E.o Aa _⟩
def Ug(s:St)(M q r Y z:Int)(w:World)(i:Mi s)(I:In64 M)(G:In64 q)(F:In64 r)(L:In64 Y)(D:In64 z):
  Calls prog 55 #[SI s,.agg (Rq M q r Y),.int .i64 z] w fun e w'=>Ps w w' (KG s M q r Y z) e:=by
 obtain⟨X,V,U,R,T,W,Z⟩:=s
 unfold SI ME Rq
 obtain⟨⟨u,k,c,l,t,v,b⟩,A⟩:∃p,Ie ⟨X,V,U,R,T,W,Z⟩ M q=p:=⟨_,rfl⟩;have HP:=zz A
 have HI:=zz (show Mi ⟨u,k,c,l,t,v,b⟩from by rw[←A];exact MJ i M q)
 obtain⟨⟨⟨QX,n,d,j,QC,g,qm⟩,qt⟩,hq⟩:∃p,update ⟨u,k,c,l,t,v,b⟩ z r Y=p:=⟨_,rfl⟩;have HQ:=zz hq
 have HF:=zz (show KG ⟨X,V,U,R,T,W,Z⟩ M q r Y z=(⟨QX,n,d,j,QC,g,qm⟩,qt)from by unfold KG;rw[A,hq])
 have f:=zz i;have HD:=zz I;have HK:=zz G;have HL:=zz F;have HG:=zz L;have HZ:=zz D;clear A hq i I G F L D
 go_in
 go_upto_region 1 with fail
 have E:=zz (show Below w.heap.size w (((w.alloc (.cells (AZ X V U R T W Z) 25)).alloc (.cells (Bn M q r Y) 23)).alloc (.cells VD 25)).drew from(((DC).alloc Bq _).alloc Ec _).drew)
 have N:=zz (show Ae (((w.alloc (.cells (AZ X V U R T W Z) 25)).alloc (.cells (Bn M q r Y) 23)).alloc (.cells VD 25)).drew w.heap.size 25 (AZ X V U R T W Z)from(((Ae.new rfl).alloc _).alloc _).drew)
 have O:=zz (show Ae (((w.alloc (.cells (AZ X V U R T W Z) 25)).alloc (.cells (Bn M q r Y) 23)).alloc (.cells VD 25)).drew (w.heap.size+1) 23 (Bn M q r Y)from((Ae.new Bq).alloc _).drew)
 have H:=zz (show Ae (((w.alloc (.cells (AZ X V U R T W Z) 25)).alloc (.cells (Bn M q r Y) 23)).alloc (.cells VD 25)).drew (w.heap.size+1+1) 25 VD from(Ae.new Bq).drew)
 refine wp_region_noPanic ?_
 generalize(((w.alloc (.cells (AZ X V U R T W Z) 25)).alloc (.cells (Bn M q r Y) 23)).alloc (.cells VD 25))=B at*
 obtain⟨gr,qQ⟩:=AJ (w.heap.size+1+1);rw[qQ]at H ⊢;obtain⟨C,y⟩:=AJ (w.heap.size+1);rw[y]at O ⊢;have J:=And.intro N.o (And.intro ((Ae.cell O.o 0).trans rfl) (And.intro ((Ae.cell O.o 1).trans rfl) (And.intro ((Ae.cell O.o 2).trans rfl) ((Ae.cell O.o 3).trans rfl))));refine A8 [0,2,4,8,10] (fun w'=>Ae w' w.heap.size 25 (AZ X V U R T W Z)/\ w'.cell? ⟨C,0,none⟩=some (.int .i64 M)/\ w'.cell? ⟨C,1,none⟩=some (.int .i64 q)/\ w'.cell? ⟨C,2,none⟩=some (.int .i64 r)/\ w'.cell? ⟨C,3,none⟩=some (.int .i64 Y)) Ap ?_
 generalize B.drew=B at*
 refine Ba 0 (.agg (AZ X V U R T W Z)) J (hy:=?_) (h:=?_)
 . (intro w' m;exact Ni 25 (.tmp 3) rfl w.heap.size rfl m.1 underlying25 rfl Ap)
 refine Ac 1 ?_;refine Bc 2 J ?_;refine Ac 3 ?_;refine Bc 4 J ?_;refine Ac 6 ?_;refine Ac 7 ?_;refine Bc 8 J ?_;refine Ac 9 ?_;refine Bc 10 J ?_;refine Aw 5 ?_;refine Bt ?_;intro K hK;rw[Ao Bb];go_simp
 go_at_call 89
 refine(P5 ⟨X,V,U,R,T,W,Z⟩ M q _ f.o HD.o HK.o).mono ?_;rintro e B ⟨rfl,hb⟩;rw[HP.o];simp only[SI,ME];have N:=AU N hb;have O:=AU O hb;have H:=AU H hb;have E:=CU E hb;clear hb J;have J:=And.intro N.o (And.intro ((Ae.cell O.o 0).trans rfl) (And.intro ((Ae.cell O.o 1).trans rfl) (And.intro ((Ae.cell O.o 2).trans rfl) ((Ae.cell O.o 3).trans rfl))));go_wp2_with fail;refine hK.o _ _ J ?_;refine Aw 11 ?_;refine AX ?_ ?_
 . kernel_rfl
 intro K hK;rw[Ao Bb];go_simp
 go_at_call 88
 refine(Rl ⟨u,k,c,l,t,v,b⟩ z r Y _ HI.o HZ.o HL.o HG.o).mono ?_;rintro e B ⟨rfl,hb⟩;rw[HQ.o];simp only[SI,ME];have N:=AU N hb;have O:=AU O hb;have H:=AU H hb;have E:=CU E hb;clear hb J;have J:=And.intro N.o (And.intro ((Ae.cell O.o 0).trans rfl) (And.intro ((Ae.cell O.o 1).trans rfl) (And.intro ((Ae.cell O.o 2).trans rfl) ((Ae.cell O.o 3).trans rfl))));go_wp2_with fail;refine hK.o _ _ ?_;refine Ac 12 ?_;refine Ac 13 ?_;refine Aw 14 ?_;refine AX ?_ ?_
 . kernel_rfl
 intro K hK;rw[Ao Bb];refine wp_store_row 25 _ _ rfl gr (AZ QX n d j QC g qm) rfl rfl 25 _ H.o Ap rfl GR ?_;refine hK.o _ _ ?_;refine Ac 15 ?_;refine Bg Ap ?_ _;refine NoPanic.normal ?_;clear J;go_wp2_with fail;refine Ci (x:=.bool qt) rfl rfl rfl (H.o.setRow (AZ QX n d j QC g qm)) ⟨by rw[underlying25],Ap⟩ rfl ?_;rw[HF.o];exact⟨rfl,below_setRow E.o Aa _⟩
end BigW
namespace Nd
open Go.RowKit Mem Rws Flat Md BigW
def OB(f:Nat->Value)(j:Nat):Int:=iv (f (39+j))
def GD(k:Nat)(Y:Int)(Z:List Cw)(f:Nat->Value)(j:Nat):Int:=Fh k (j/3) (OB f j) j (fun i=>Be (k:Int) Y 2 12 (i:Int) Z)
def Nh(f:Nat->Value)(a:Nat):St:=⟨iv (f (6+(a*7+0))),iv (f (6+(a*7+1))),iv (f (6+(a*7+2))),iv (f (6+(a*7+3))),iv (f (6+(a*7+4))),bv (f (6+(a*7+5))),iv (f (6+(a*7+6)))⟩
def Il(f:Nat->Value)(z:Nat->Int)(a:Nat):Int:=(Nn (Dq (Gz f) (fun s=>z (s*3+a)) 4)).1
def JJ(f:Nat->Value)(z:Nat->Int)(a:Nat):St:=(KG (Nh f a) (iv (f 2)) (iv (f 3)) (iv (f 4)) (iv (f 5)) (Il f z a)).1
def Ky(s:St)(j:Nat):Value:=(ME s).getD j (.int .i64 0)
def Bv(f:Nat->Value)(z:Nat->Int)(P:Nat->Bool)(n u i:Nat):Value:=
 if 6<=i/\i<6+n*7 then Ky (JJ f z ((i-6)/7)) ((i-6)%7)
 else if 55<=i/\i<67/\P (i-55)=true then .int .i64 (z (i-55))
 else if 67<=i/\i<67+u then .int .i64 (Il f z (i-67))
 else f i
def Dp(_:Nat):Bool:=true
def Kv(k:Nat)(z:Nat->Int)(f:Nat->Value)(i:Nat):Value:=if i=70\/i=51+k then .int .i64 (EF (Bv f z Dp 3 3))else Bv f z Dp 3 3 i
def Jk(s:St):ME s=row 7 (Ky s):=rfl
def YM{f:Nat->Value}(V:∀i,i<73->C9 (Ar i) (f i))(a:Nat)(Y:a<3):(row 7 fun j=>f (6+(a*7+j)))=ME (Nh f a):=by
 obtain⟨U,W,X,R,N,T,t,h,_⟩:=Ki V a Y;rw[h]
 unfold Nh
 have e:∀j (v:Value),(#[.int .i64 U,.int .i64 W,.int .i64 X,.int .i64 R,.int .i64 N,.bool t,.int .i64 T]:Array Value)[j]?=some v->j<7->f (6+(a*7+j))=v:=fun j v Z O=>by
  rw[←h,Ah O]at Z;exact Option.some.inj Z
 rw[e 0 _ rfl Aa,e 1 _ rfl Aa,e 2 _ rfl Aa,e 3 _ rfl Aa,e 4 _ rfl Aa,e 5 _ rfl Aa,e 6 _ rfl Aa];rfl
def bV(s:St)(j:Nat)(Z:j<7):C9 (!(j==5)) (Ky s j):=by
 obtain rfl|rfl|rfl|rfl|rfl|rfl|rfl:j=0\/j=1\/j=2\/j=3\/j=4\/j=5\/j=6:=Aa
 all_goals exact⟨_,rfl⟩
def Ra(s:St)(j:Nat)(Z:j<7):(Ky s j).oneCell'=true:=by
 obtain rfl|rfl|rfl|rfl|rfl|rfl|rfl:j=0\/j=1\/j=2\/j=3\/j=4\/j=5\/j=6:=Aa
 all_goals rfl
def PN(i:Nat)(Z:6<=i)(Y:i<27):Ar i= !((i-6)%7==5):=by
 unfold Ar
 rw[Bool.eq_iff_iff]
 simp
 omega
def F9{f:Nat->Value}(W:∀i,i<73->C9 (Ar i) (f i))(z:Nat->Int)(P:Nat->Bool)(n u:Nat)(V:n<=3)(U:u<=3):∀i,i<73->C9 (Ar i) (Bv f z P n u i):=fun i hi=>by
 unfold Bv
 by_cases Z:6<=i/\i<6+n*7
 .rw[Ao Z,PN i Z.1 Aa];exact bV _ _ (Nat.mod_lt _ Aa)
 rw[Aj Z]
 by_cases Y:55<=i/\i<67/\P (i-55)=true
 . rw[Ao Y,show Ar i=true by unfold Ar;simp;omega];exact⟨_,rfl⟩
 rw[Aj Y]
 by_cases X:67<=i/\i<67+u
 . rw[Ao X,show Ar i=true by unfold Ar;simp;omega];exact⟨_,rfl⟩
 rw[Aj X];exact W i hi
def Po{f:Nat->Value}(Z:∀i,i<73->C9 (Ar i) (f i))(k:Nat)(Y:k<4)(z:Nat->Int):∀i,i<73->C9 (Ar i) (Kv k z f i):=fun i hi=>by
 unfold Kv
 split
 .rename_i h
  rw[show Ar i=true by unfold Ar;simp;omega];exact⟨_,rfl⟩
 exact F9 Z z _ 3 3 Aa Aa i hi
def QR(f:Nat->Value)(z:Nat->Int)(P:Nat->Bool)(Y:∀j,j<12->P j=false)(S:Value):row 74 (Ab (Bv f z P 0 0) S)=row 74 (Ab f S):=AA fun i hi=>by
 unfold Ab Bv
 by_cases h:i=73
 . rw[Ao h,Ao h]
 rw[Aj h,Aj h,Aj Aa,Aj (fun Z=>by rw[Y (i-55) Aa]at Z;cases Z.2.2),Aj Aa]
def PS(f:Nat->Value)(z:Nat->Int)(P Y:Nat->Bool)(n u:Nat)(R:n<=3)(j:Nat)(T:j<12){v:Int}(U:v=z j)(X:∀x,x<12->Y x=(P x||x==j))(S:Value):(row 74 (Ab (Bv f z P n u) S)).setIfInBounds (55+j) (.int .i64 v)=row 74 (Ab (Bv f z Y n u) S):=by
 rw[Di];refine AA fun i hi=>?_
 by_cases e:i=55+j
 .subst e;rw[Ao rfl]
  unfold Ab Bv
  rw[Aj Aa,Aj Aa,Ao ⟨Aa,Aa,by rw[Nat.add_sub_cancel_left,X j T];simp⟩,Nat.add_sub_cancel_left,U]
 rw[Aj e]
 unfold Ab Bv
 by_cases h:i=73
 . rw[Ao h,Ao h]
 rw[Aj h,Aj h]
 by_cases Z:6<=i/\i<6+n*7
 . rw[Ao Z,Ao Z]
 rw[Aj Z,Aj Z]
 by_cases W:55<=i/\i<67
 .have V:=X (i-55) Aa
  rw[show(i-55==j)=false by simp;omega,Bool.or_false]at V
  rw[V]
 rw[Aj (c:=55<=i/\i<67/\P (i-55)=true) (fun h=>W ⟨h.1,h.2.1⟩),Aj (c:=55<=i/\i<67/\Y (i-55)=true) (fun h=>W ⟨h.1,h.2.1⟩)]
def Tg(f:Nat->Value)(z:Nat->Int)(P:Nat->Bool)(n u:Nat)(W:n<=3)(V:u<3)(S:Value):(row 74 (Ab (Bv f z P n u) S)).setIfInBounds (67+u) (.int .i64 (Il f z u))=row 74 (Ab (Bv f z P n (u+1)) S):=by
 rw[Di];refine AA fun i hi=>?_
 by_cases e:i=67+u
 .subst e;rw[Ao rfl]
  unfold Ab Bv
  rw[Aj Aa,Aj Aa,Aj Aa,Ao Aa,Nat.add_sub_cancel_left]
 rw[Aj e]
 unfold Ab Bv
 by_cases h:i=73
 . rw[Ao h,Ao h]
 rw[Aj h,Aj h]
 by_cases Y:6<=i/\i<6+n*7
 . rw[Ao Y,Ao Y]
 rw[Aj Y,Aj Y]
 by_cases Z:55<=i/\i<67/\P (i-55)=true
 . rw[Ao Z,Ao Z]
 rw[Aj Z,Aj Z]
 by_cases X:67<=i/\i<67+u
 . rw[Ao X,Ao Aa]
 rw[Aj X,Aj Aa]
def Tt(f:Nat->Value)(z:Nat->Int)(P:Nat->Bool)(n u:Nat)(X:n<3)(S:Value):row 74 (over (6+n*7) 7 (Ky (JJ f z n)) (Ab (Bv f z P n u) S))=row 74 (Ab (Bv f z P (n+1) u) S):=AA fun i hi=>by
 by_cases h:6+n*7<=i/\i<6+n*7+7
 .rw[Jl h.1 h.2]
  unfold Ab Bv
  rw[Aj Aa,Ao Aa,show(i-6)/7=n by omega,show(i-6)%7=i-(6+n*7)by omega]
 rw[Cx Aa]
 unfold Ab Bv
 by_cases Z:i=73
 . rw[Ao Z,Ao Z]
 rw[Aj Z,Aj Z]
 by_cases Y:6<=i/\i<6+n*7
 . rw[Ao Y,Ao (show 6<=i/\i<6+(n+1)*7 by omega)]
 rw[Aj Y,Aj (show ¬(6<=i/\i<6+(n+1)*7)by omega)]
def VI(k:Nat)(X:k<4)(z:Nat->Int)(f:Nat->Value)(S:Value):((row 74 (Ab (Bv f z Dp 3 3) S)).setIfInBounds 70 (.int .i64 (EF (Bv f z Dp 3 3)))).setIfInBounds (51+k) (.int .i64 (EF (Bv f z Dp 3 3)))=row 74 (Ab (Kv k z f) S):=by
 rw[Di,Di];refine AA fun i hi=>?_
 unfold Ab Kv
 by_cases Y:i=51+k
 . rw[Ao Y,Aj Aa,Ao (.inr Y)]
 rw[Aj Y]
 by_cases Z:i=70
 . rw[Ao Z,Aj Aa,Ao (.inl Z)]
 rw[Aj Z]
 by_cases h:i=73
 . rw[Ao h,Ao h]
 rw[Aj h,Aj h,Aj Aa]
def DZ(f:Nat->Value)(z:Nat->Int)(P:Nat->Bool)(n u i:Nat)(h:i<6\/(27<=i/\i<55)\/70<=i)(Z:n<=3)(Y:u<=3):Bv f z P n u i=f i:=by
 unfold Bv
 rw[Aj Aa,Aj Aa,Aj Aa]
def Ze(f:Nat->Value)(z:Nat->Int)(P:Nat->Bool)(n u:Nat)(Z:n<3)(j:Nat)(Y:j<7):Bv f z P n u (6+(n*7+j))=f (6+(n*7+j)):=by
 unfold Bv
 rw[Aj Aa,Aj Aa,Aj Aa]
def UB(f:Nat->Value)(z:Nat->Int)(P:Nat->Bool)(n u:Nat)(Y:n<=3)(j:Nat)(X:j<12)(Z:P j=true):Bv f z P n u (55+j)=.int .i64 (z j):=by
 unfold Bv
 rw[Aj Aa,Ao ⟨Aa,Aa,by rw[Nat.add_sub_cancel_left];exact Z⟩,Nat.add_sub_cancel_left]
def YR(f:Nat->Value)(z:Nat->Int)(P:Nat->Bool)(n u:Nat)(Z:n<=3)(a:Nat)(Y:a<u)(X:u<=3):Bv f z P n u (67+a)=.int .i64 (Il f z a):=by
 unfold Bv
 rw[Aj Aa,Aj Aa,Ao Aa,Nat.add_sub_cancel_left]
def lV(f:Nat->Value)(z:Nat->Int)(P:Nat->Bool)(n u:Nat)(Z:n<=3)(Y:u<=3)(i:Nat)(hi:i<4):Gz (Bv f z P n u) i=Gz f i:=by
 unfold Gz
 rw[DZ _ _ _ _ _ _ Aa Z Y]
def OE{I J:Nat->Bool}{z y:Nat->Int}:∀ {k:Nat},(∀j,j<k->I j=J j)->(∀j,j<k->z j=y j)->Dq I z k=Dq J y k
 |0,_,_=>rfl
 |k+1,h,g=>by
  unfold Dq
  rw[OE (fun j Z=>h j Aa) (fun j Z=>g j Aa),h k Aa,g k Aa]
def ZN(f:Nat->Value)(z:Nat->Int)(P:Nat->Bool)(n u:Nat)(Z:n<=3)(V:u<=3)(a:Nat)(U:a<3)(Y:∀s,s<4->P (s*3+a)=true):(Nn (Dq (Gz (Bv f z P n u)) (fun s=>mM (Bv f z P n u) s a) 4)).1=Il f z a:=by
 unfold Il
 rw[OE (J:=Gz f) (y:=fun s=>z (s*3+a)) (fun j X=>lV f z P n u Z V j X) (fun s W=>by
  unfold mM
  rw[UB f z P n u Z (s*3+a) Aa (Y s W)]
  rfl)]
def pq{l:List Int}(h:∀x∈l,In64 x):In64 (Nn l).1:=by
 unfold Nn
 split
 . exact⟨El,El⟩
 rename_i h0
 have Y:=h _ (Nb (l:=l) (k:=(l.length-1)/3) Aa);have Z:=h _ (Nb (l:=l) (k:=l.length-1-(l.length-1)/3) Aa)
 unfold In64 at*
 show-9223372036854775808<=Nz l/\Nz l<=9223372036854775807
 unfold Nz
 omega
def Um{f:Nat->Value}{z:Nat->Int}(Y:∀j,j<12->In64 (z j))(a:Nat)(X:a<3):In64 (Il f z a):=pq fun x Z=>by
 obtain⟨s,W,_,rfl⟩:=KT Z;exact Y _ Aa
def iO{f:Nat->Value}(Y:∀i,i<73->C9 (Ar i) (f i))(Z:∀i z,i<73->f i=.int .i64 z->Wf z)(a:Nat)(X:a<3):Mi (Nh f a):=by
 have h:∀j,j<5->In64 (iv (f (6+(a*7+j)))):=fun j W=>Op.wf_i64 (Z (6+(a*7+j)) _ Aa (Dk Y (6+(a*7+j)) Aa (by rw[PN _ Aa Aa];simp;omega)));exact⟨h 0 Aa,h 1 Aa,h 2 Aa,h 3 Aa,h 4 Aa⟩
def jJ{f:Nat->Value}(Y:∀i,i<73->C9 (Ar i) (f i))(Z:∀i z,i<73->f i=.int .i64 z->Wf z)(i:Nat)(hi:2<=i/\i<6):In64 (iv (f i)):=Op.wf_i64 (Z i _ Aa (Dk Y i Aa (by unfold Ar;simp;omega)))
def Ot{f:Nat->Value}(W:∀i,i<73->C9 (Ar i) (f i))(Y:∀i z,i<73->f i=.int .i64 z->Wf z){Z:List Cw}(V:∀m∈Z,∀z∈m.zs,Wf z)(k:Nat)(X:Int):∀j,j<12->In64 (GD k X Z f j):=fun j U=>by
 unfold GD
 refine Op.wf_i64 (PZ ?_ fun j m h=>V m (List.mem_of_find?_eq_some h));exact Y (39+j) _ Aa (Dk W (39+j) Aa (by unfold Ar;simp;omega))
end Nd
namespace Nd
open Go.RowKit Mem Rws Flat
def GN(Z:List Int)(i:Nat):Int:=Z.getD i 0
def jf(v:Int)(i:Nat):Bool:=v.toNat/2 ^ i%2==1
def Ny(v:Int)(i:Nat):Int:=((v.toNat/8 ^ (3-i)%8:Nat):Int)
def CZ(Z:List Int):RS:=⟨jf (GN Z 21),Ny (GN Z 22),Ny (GN Z 23)⟩
def Oq(Z:List Int):Bool:=decide (0<=GN Z 21/\GN Z 21<16/\0<=GN Z 22/\GN Z 22<4096/\0<=GN Z 23/\GN Z 23<4096)
def Ox(Z:List Int)(a:Nat):Bool:=decide (GN Z (a*7+5)=0\/GN Z (a*7+5)=1)
def JC(Z:List Int):Nat->Bool
 |0=>true
 |a+1=>JC Z a&&Ox Z a
def Sj(Z:List Int):Bool:=Ji (CZ Z).f (CZ Z).m (CZ Z).j 4
def CQ(Z:List Int):Bool:=Oq Z&&Sj Z&&JC Z 3
def MZ(Z:List Int)(i:Nat):Value:=if i%7=5 then .bool (GN Z i==1)else .int .i64 (GN Z i)
def MP(Z:List Int)(k:Nat)(f:Nat->Value)(i:Nat):Value:=if 6<=i/\i<6+k*7 then MZ Z (i-6)else f i
def EX(Z:List Int)(f:Nat->Value):Nat->Value:=EW (MP Z 3 f) (CZ Z)
def Qi{Z:List Int}{k:Nat}(hb:Ox Z k=false):∀ {n:Nat},k<n->JC Z n=false
 |0,h=>absurd h Aa
 |n+1,h=>by
  unfold JC
  by_cases e:k=n
  . subst e;rw[hb,Bool.and_false]
  rw[Qi hb (show k<n by omega),Bool.false_and]
def mr(Z:List Int)(i:Nat):(MZ Z i).oneCell'=true:=by unfold MZ;split<;>rfl
def UD{f:Nat->Value}(X:∀i,i<73->C9 (Ar i) (f i))(Y:List Int)(k:Nat)(W:k<=3):∀i,i<73->C9 (Ar i) (MP Y k f i):=fun i hi=>by
 unfold MP
 by_cases h:6<=i/\i<6+k*7
 .rw[Ao h]
  unfold MZ
  by_cases Z:(i-6)%7=5
  .rw[Ao Z];obtain rfl|rfl|rfl:i=11\/i=18\/i=25:=Aa
   all_goals exact⟨_,rfl⟩
  rw[Aj Z]
  have e:Ar i=true:=by unfold Ar;simp;omega
  rw[e];exact⟨_,rfl⟩
 rw[Aj h];exact X i hi
def aj{f:Nat->Value}(Y:∀i,i<73->C9 (Ar i) (f i))(Z:List Int):∀i,i<73->C9 (Ar i) (EX Z f i):=Qj (UD Y Z 3 Nr) _
def Yn(Z:List Int)(f:Nat->Value)(i:Nat)(h:i<6):EX Z f i=f i:=by
 unfold EX EW MP
 rw[Aj Aa,Aj Aa]
def WJ(Z:List Int)(f:Nat->Value)(i:Nat)(h:39<=i):EX Z f i=f i:=by
 unfold EX EW MP
 rw[Aj Aa,Aj Aa]
def Xz(Z:List Int)(f:Nat->Value)(S:Value):row 74 (over 27 12 (Bo (CZ Z).f (CZ Z).m (CZ Z).j) (over 6 21 (MZ Z) (Ab f S)))=row 74 (Ab (EX Z f) S):=AA fun i hi=>by
 unfold over Ab EX EW MP
 by_cases h:27<=i/\i<27+12
 . rw[Ao h,Aj Aa,Ao Aa]
 rw[Aj h,Aj (show ¬(27<=i/\i<39)by omega)]
 by_cases Y:6<=i/\i<6+21
 . rw[Ao Y,Aj Aa,Ao Aa]
 rw[Aj Y]
 by_cases e:i=73
 . rw[Ao e,Ao e]
 rw[Aj e,Aj e,Aj Aa]
def iK(Z:List Int)(k:Nat)(X:k<3)(F:Nat->Value):row 21 (over (k*7) 7 (fun j=>MZ Z (k*7+j)) (fun i=>if i<k*7 then MZ Z i else F i))=row 21 (fun i=>if i<(k+1)*7 then MZ Z i else F i):=AA fun i hi=>by
 unfold over
 by_cases h:k*7<=i/\i<k*7+7
 .rw[Ao h,Ao Aa]
  show MZ Z (k*7+(i-k*7))=_
  rw[show k*7+(i-k*7)=i by omega]
 rw[Aj h]
 show(if i<k*7 then MZ Z i else F i)=_
 by_cases Y:i<k*7
 . rw[Ao Y,Ao Aa]
 rw[Aj Y,Aj Aa]
def YP(Z:List Int)(k:Nat)(Y:k<3):(row 7 fun j=>MZ Z (k*7+j))=(AZ (GN Z (k*7)) (GN Z (k*7+1)) (GN Z (k*7+2)) (GN Z (k*7+3)) (GN Z (k*7+4)) (GN Z (k*7+5)==1) (GN Z (k*7+6))):=by
 obtain rfl|rfl|rfl:k=0\/k=1\/k=2:=Aa
 all_goals rfl
def nD{w:World}{B:Nat}{a:Option Addr}{Z:List Int}(h:Rd w B 1 a Z.length (Ms.AQ Z))(X:Z.length=24):∃b o,a=some ⟨b,o,none⟩/\b<B/\∀j,j<24-> w.cell? ⟨b,o+j,none⟩=some (.int .i64 (GN Z j)):=by
 obtain⟨b,o,e,hb,Y⟩:=h.2 Aa;refine⟨b,o,e,hb,fun j W=>Y j _ ?_⟩
 unfold Ms.AQ GN
 rw[List.getElem?_map,List.getD_eq_getElem?_getD,List.getElem?_eq_getElem Aa];rfl
def gQ(w:World)(o:Obj)(row:Option Nat):w.grownBy (w.alloc o) row:=JE ((Below.refl _ _).alloc Nr o)
def Lh(w:World)(g:Nat):∀(Z:List Value) (o:Nat),w.grownBy (w.setCells g o Z) (some g)
 |[],_=>mQ w _
 |v::r,o=>by
  rw[World.setCells];exact Df (Ia w g o v) (Lh _ g r (o+1))
def Ns(g:Nat->Bool)(j i:Nat):Bool:=if i<j then g i else false
def Jb(g:Nat->Int)(j i:Nat):Int:=if i<j then g i else 0
def Xu(g:Nat->Bool)(j:Nat):upd (Ns g j) j (g j)=Ns g (j+1):=funext fun i=>by
 unfold upd Ns
 by_cases e:i=j
 . subst e;rw[Ao rfl,Ao Aa]
 rw[Aj e]
 by_cases h:i<j
 . rw[Ao h,Ao Aa]
 rw[Aj h,Aj Aa]
def PO(g:Nat->Int)(j:Nat):upd (Jb g j) j (g j)=Jb g (j+1):=funext fun i=>by
 unfold upd Jb
 by_cases e:i=j
 . subst e;rw[Ao rfl,Ao Aa]
 rw[Aj e]
 by_cases h:i<j
 . rw[Ao h,Ao Aa]
 rw[Aj h,Aj Aa]
def jE(r:RS):row 12 (Bo (Ns r.f 4) (Jb r.m 4) (Jb r.j 4))=r.row:=
 Yd (fun i hi=>by unfold Ns;rw[Ao hi]) (fun i hi=>by unfold Jb;rw[Ao hi]) (fun i hi=>by unfold Jb;rw[Ao hi])
def pU(n:Int):bits .and .i64 n 1=n%2:=by
 have Y:(BitVec.ofInt 64 1).toNat=2 ^ 1-1:=El
 have Z:(BitVec.ofInt 64 n&&& BitVec.ofInt 64 1).toNat=(n%((2 ^ 64:Nat):Int)).toNat%2 ^ 1:=by
  rw[BitVec.toNat_and,BitVec.toNat_ofInt,Y,Nat.and_two_pow_sub_one_eq_mod]
 show IntKind.i64.wrap ((BitVec.ofInt 64 n&&& BitVec.ofInt 64 1).toNat:Nat)=n%2
 rw[Z,IntKind.wrap_i64];omega
def pK(n:Int):bits .and .i64 n 7=n%8:=by
 have Y:(BitVec.ofInt 64 7).toNat=2 ^ 3-1:=El
 have Z:(BitVec.ofInt 64 n&&& BitVec.ofInt 64 7).toNat=(n%((2 ^ 64:Nat):Int)).toNat%2 ^ 3:=by
  rw[BitVec.toNat_and,BitVec.toNat_ofInt,Y,Nat.and_two_pow_sub_one_eq_mod]
 show IntKind.i64.wrap ((BitVec.ofInt 64 n&&& BitVec.ofInt 64 7).toNat:Nat)=n%8
 rw[Z,IntKind.wrap_i64];omega
def ZB(v j:Nat){x:Int}(Z:x=((v/2 ^ j:Nat):Int)):(x%2==1)=jf (v:Int) j:=by
 subst Z
 unfold jf
 rw[Int.toNat_natCast];generalize v/2 ^ j=y;rw[Bool.eq_iff_iff]
 simp
 omega
def ku(v j:Nat){x:Int}(Z:x=((v/2 ^ j:Nat):Int)):(bits .and .i64 x 1==1)=jf (v:Int) j:=by
 rw[pU];exact ZB v j Z
def Uw(v j:Nat){x:Int}(Z:x=((v/8 ^ (3-j):Nat):Int)):x%8=Ny (v:Int) j:=by
 subst Z
 unfold Ny
 rw[Int.toNat_natCast];generalize v/8 ^ (3-j)=y;omega
def YJ(v j:Nat){x:Int}(Z:x=((v/8 ^ (3-j):Nat):Int)):bits .and .i64 x 7=Ny (v:Int) j:=by
 rw[pK];exact Uw v j Z
def jC(r:RS)(j:Nat)(Z:j<4){w:World}{g:Nat}{t:TypeId}(h:Ae w g t (row 12 (Bo (Ns r.f j) (Jb r.m j) (Jb r.j j)))){b:Bool}{x y:Int}(hb:b=r.f j)(Y:x=r.m j)(hy:y=r.j j):
  Ae (((w.setCell ⟨g,j,none⟩ (.bool b)).setCell ⟨g,4+j,none⟩ (.int .i64 x)).setCell ⟨g,8+j,none⟩ (.int .i64 y)) g t (row 12 (Bo (Ns r.f (j+1)) (Jb r.m (j+1)) (Jb r.j (j+1)))):=by
 subst hb Y hy;have X:=((h.set j (.bool (r.f j))).set (4+j) (.int .i64 (r.m j))).set (8+j) (.int .i64 (r.j j))
 rwa[NR _ _ _ j Z,EP _ _ _ j Z,Gt _ _ _ j Z,Xu,PO,PO]at X
def KL(r:RS)(n:Nat)(F:Nat->Value)(i:Nat):Value:=if 27<=i/\i<39/\n<=(i-27)%4 then Bo r.f r.m r.j (i-27)else F i
def dn(r:RS)(F:Nat->Value)(S:Value):row 74 (Ab (KL r 4 F) S)=row 74 (Ab F S):=AA fun i hi=>by
 unfold Ab KL
 rw[Aj (show ¬(27<=i/\i<39/\4<=(i-27)%4)by omega)]
def ZT(r:RS)(F:Nat->Value)(S:Value):row 74 (Ab (KL r 0 F) S)=row 74 (Ab (EW F r) S):=AA fun i hi=>by
 unfold Ab KL EW
 by_cases h:27<=i/\i<39
 . rw[Ao (show 27<=i/\i<39/\0<=(i-27)%4 from⟨h.1,h.2,Nat.zero_le _⟩),Ao h]
 rw[Aj (show ¬(27<=i/\i<39/\0<=(i-27)%4)from fun Z=>h ⟨Z.1,Z.2.1⟩),Aj h]
def dh(r:RS)(j:Nat)(X:j<4)(F:Nat->Value)(S:Value){w:World}{g:Nat}{t:TypeId}(h:Ae w g t (row 74 (Ab (KL r (j+1) F) S))){b:Bool}{x y:Int}(hb:b=r.f j)(R:x=r.m j)(hy:y=r.j j):
  Ae (((w.setCell ⟨g,31+j,none⟩ (.int .i64 x)).setCell ⟨g,35+j,none⟩ (.int .i64 y)).setCell ⟨g,27+j,none⟩ (.bool b)) g t (row 74 (Ab (KL r j F) S)):=by
 subst hb R hy;have Y:=((h.set (31+j) (.int .i64 (r.m j))).set (35+j) (.int .i64 (r.j j))).set (27+j) (.bool (r.f j));rw[Di,Di,Di]at Y;rw[AA (g:=Ab (KL r j F) S) (fun i hi=>?_)]at Y
 . exact Y
 by_cases U:i=27+j
 .subst U;rw[Ao rfl]
  unfold Ab KL
  rw[Aj Aa,Ao Aa,Nat.add_sub_cancel_left,EZ X]
 rw[Aj U]
 by_cases W:i=35+j
 .subst W;rw[Ao rfl]
  unfold Ab KL
  rw[Aj Aa,Ao Aa,show 35+j-27=8+j by omega,FC X]
 rw[Aj W]
 by_cases V:i=31+j
 .subst V;rw[Ao rfl]
  unfold Ab KL
  rw[Aj Aa,Ao Aa,show 31+j-27=4+j by omega,EB X]
 rw[Aj V]
 unfold Ab KL
 by_cases Z:i=73
 . rw[Ao Z,Ao Z]
 rw[Aj Z,Aj Z]
 by_cases T:27<=i/\i<39/\j+1<=(i-27)%4
 . rw[Ao T,Ao Aa]
 rw[Aj T,Aj Aa]
def XT(r:RS)(F:Nat->Value)(S:Value):(row 12 fun j=>Ab (EW F r) S (27+j))=r.row:=AA fun i hi=>by
 unfold Ab EW
 rw[Aj Aa,Ao Aa,Nat.add_sub_cancel_left]
def oK(Z:List Int)(k:Nat)(X:k<3)(f:Nat->Value)(S:Value):row 74 (over (6+k*7) 7 (fun j=>MZ Z (k*7+j)) (Ab (MP Z k f) S))=row 74 (Ab (MP Z (k+1) f) S):=AA fun i hi=>by
 unfold over Ab MP
 by_cases h:6+k*7<=i/\i<6+k*7+7
 .rw[Ao h,Aj Aa,Ao Aa]
  show MZ Z (k*7+(i-(6+k*7)))=_
  rw[show k*7+(i-(6+k*7))=i-6 by omega]
 rw[Aj h]
 by_cases e:i=73
 . rw[Ao e,Ao e]
 rw[Aj e,Aj e]
 by_cases Y:6<=i/\i<6+k*7
 . rw[Ao Y,Ao Aa]
 rw[Aj Y,Aj Aa]
def lg(Z:List Int)(f:Nat->Value)(S:Value):row 74 (Ab (MP Z 0 f) S)=row 74 (Ab f S):=AA fun i hi=>by
 unfold Ab MP
 rw[Aj (show ¬(6<=i/\i<6+0*7)by omega)]
def Zm(Z:List Int):(CZ Z).f=jf (GN Z 21):=rfl
def Zh(Z:List Int):(CZ Z).m=Ny (GN Z 22):=rfl
def ZL(Z:List Int):(CZ Z).j=Ny (GN Z 23):=rfl
def Mt{P:Program}{Z:Oper}{a:Act}{w:World}{K:Act->World->Prop}{Q:Exit->Act->World->Prop}(ty:TypeId)(x y:Operand)(Y:Z.op=.store ty x y)(b o:Nat)(cells:Array Value)(hx:a.eval x=.pointer (some ⟨b,o,none⟩))(hy:a.eval y=.agg cells)(ht:w.there b o cells.size)(hi:(P.info? ty).map (·.size)=some cells.size)(h1:cells.all (·.oneCell')=true)(h:∀V,V=w.setCells b o cells.toList->K (a.put Z.dst undef) V):Z.wp P a w K Q:=wp_store_mid ty x y Y b o cells hx hy ht hi h1 (h _ rfl)
def QT{B b o:Nat}(Y:B<=b){a w V:World}{Z:List Value}(e:V=w.setCells b o Z)(h:Below B a w):Below B a V:=by
 subst e;exact below_setCells Y Z o h
def Yg{b b' o:Nat}{t:TypeId}{cs:Array Value}(hb:b≠b'){w V:World}{Z:List Value}(e:V=w.setCells b' o Z)(h:Ae w b t cs):Ae V b t cs:=by
 subst e;exact Al (w:=w) hb Z o _ h
end Nd
end Go.Proofs.YtjobajeggllmiaaGreat
