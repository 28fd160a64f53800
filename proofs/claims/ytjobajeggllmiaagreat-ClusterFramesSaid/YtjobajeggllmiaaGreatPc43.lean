import Derived.Test.YtjobajeggllmiaaGreatPc0
import Derived.Test.YtjobajeggllmiaaGreatPc40
set_option linter.all false
set_option maxHeartbeats 100000000
set_option maxRecDepth 100000
namespace Go.Proofs.YtjobajeggllmiaaGreat
open _root_.Go.Proofs.Tryz
namespace Cf
open Go.ChangeShapes Go.WideShapes Go.ChangeAt Go.RowKit Mem Rws Nd Cl
def YD(w:World)(o Z:Obj)(T:TypeId)(C:Array Value):Ae (((w.alloc o).alloc Z).alloc (.cells C T)) (w.heap.size+2) T C:=by
 have h:Ae (((w.alloc o).alloc Z).alloc (.cells C T)) ((w.alloc o).alloc Z).heap.size T C:=Ae.fresh _ _ _
 rwa[show((w.alloc o).alloc Z).heap.size=w.heap.size+2 by simp]at h
def Tx(w:World)(o:Obj)(T:TypeId)(C:Array Value):Ae ((w.alloc o).alloc (.cells C T)) (w.heap.size+1) T C:=by
 have h:Ae ((w.alloc o).alloc (.cells C T)) (w.alloc o).heap.size T C:=Ae.fresh _ _ _
 rwa[show(w.alloc o).heap.size=w.heap.size+1 by simp]at h
def WH(c:Du)(x:He)(D:∀i,i<4->∀j,j<73->C9 (Ar j) (c.F i j))(Z:Nat->Option Addr)(Y:Nat->Nat)(LA:Option Addr)(LC:Nat)(w:World)(r:Int)(h:(r=3/\(x.bad< -1\/3<x.bad\/c.fr<0\/1073741824<=c.fr))\/(r=6/\(-1<=x.bad/\x.bad<=3/\0<=c.fr/\c.fr<1073741824)/\400<x.ls.length)\/(r=7/\(-1<=x.bad/\x.bad<=3/\0<=c.fr/\c.fr<1073741824)/\x.ls.length<=400/\∃j0,j0<4/\(∀i,i<j0->c.F i 0=.int .i64 (i:Int))/\∃t,c.F j0 0=.int .i64 t/\t≠(j0:Int))):
  Calls prog 5 #[.agg (row 297 (Ak c.fr c.F (AO Z c.V Y))),.agg (row 14 (BP x.rd x.bad (.slice LA x.ls.length LC)))] w fun e w'=>e=.returned (.tuple #[.agg zeroCells40,.slice none 0 0,.int .i64 r])/\Below w.heap.size w w':=by
 have l:=zz D;clear D;obtain⟨X,W⟩:=AJ (row 297 (Ak c.fr c.F (AO Z c.V Y)));obtain⟨U,T⟩:=AJ (row 14 (BP x.rd x.bad (.slice LA x.ls.length LC)));rw[W,T]
 have c0:X[0]?=some (.int .i64 c.fr):=by rw[←W,Ah Aa];rfl
 have qX:U[12]?=some (.int .i64 x.bad):=by rw[←T,Ah Aa];rfl
 have b:U[13]?=some (.slice LA x.ls.length LC):=by rw[←T,Ah Aa];rfl
 have B1:=zz (show Ae (((w.alloc (.cells X 40)).alloc (.cells U 43)).alloc (.cells zeroCells40 40)) w.heap.size 40 X from((show Ae (w.alloc (.cells X 40)) w.heap.size 40 X from Ae.fresh _ _ _).alloc _).alloc _)
 have B2:=zz (show Ae (((w.alloc (.cells X 40)).alloc (.cells U 43)).alloc (.cells zeroCells40 40)) (w.heap.size+1) 43 U from(Tx _ _ _ _).alloc _)
 have I:=zz (show Ae (((w.alloc (.cells X 40)).alloc (.cells U 43)).alloc (.cells zeroCells40 40)) (w.heap.size+2) 40 zeroCells40 from YD _ _ _ _ _)
 have f:=zz ((((Below.refl w.heap.size w).alloc Nr (.cells X 40)).alloc Bq (.cells U 43)).alloc Ec (.cells zeroCells40 40));have O:=zz (fun w=>(by kernel_rfl:(Instr.build 40 #[]).run prog w=.ok (.agg zeroCells40) w));have J:(prog.info? 40).map (·.size)=some (zeroCells40).size:=Ap;have oZ:(zeroCells40).all (·.oneCell')=true:=Ap;have qZ:=zz W
 go_in
 go_upto_region 1 with fail
 generalize(((w.alloc (.cells X 40)).alloc (.cells U 43)).alloc (.cells zeroCells40 40))=d at*
 have qW:=(B2.o.cell 12).trans qX;have qU:=(B2.o.cell 13).trans b;have y0:=(B1.o.cell 0).trans c0
 rcases h with⟨rfl,h⟩|⟨rfl,h,hl⟩|⟨rfl,h,hl,j0,hj,B,t,C⟩
 .have h:x.bad< -1\/(¬x.bad< -1/\(4<=x.bad))\/(¬x.bad< -1/\¬(4<=x.bad)/\c.fr<0)\/(¬x.bad< -1/\¬(4<=x.bad)/\¬c.fr<0/\1073741824<=c.fr):=Aa
  rcases h with h|⟨h1,h2⟩|⟨h1,h2,h3⟩|⟨h1,h2,h3,h4⟩
  all_goals
   go_wp2_with(first
    |(refine Dj rfl 40 _ rfl (.agg zeroCells40) (O.o _) ?_)
    |(refine wpList_store_row rfl 40 _ _ rfl (w.heap.size+2) zeroCells40 rfl rfl 40 _ I.o J rfl oZ ?_))
   exact CR (x:=.slice none 0 0) (y:=.int .i64 3) rfl rfl rfl rfl (I.o.setRow zeroCells40) ⟨by rw[underlying40],J⟩ rfl ⟨rfl,below_setRow f.o Aa _⟩
 .have b5:(400:Int)<(x.ls.length:Int):=Aa;have b1:¬x.bad< -1:=Aa;have b2:¬(4<=x.bad):=Aa;have b3:¬c.fr<0:=Aa;have b4:¬1073741824<=c.fr:=Aa
  go_wp2_with(first
   |(refine Dj rfl 40 _ rfl (.agg zeroCells40) (O.o _) ?_)
   |(refine wpList_store_row rfl 40 _ _ rfl (w.heap.size+2) zeroCells40 rfl rfl 40 _ I.o J rfl oZ ?_))
  exact CR (x:=.slice none 0 0) (y:=.int .i64 6) rfl rfl rfl rfl (I.o.setRow zeroCells40) ⟨by rw[underlying40],J⟩ rfl ⟨rfl,below_setRow f.o Aa _⟩
 have qQ:=zz B;have HZ:=zz C;clear B C;have b1:¬x.bad< -1:=Aa;have b2:¬(4<=x.bad):=Aa;have b3:¬c.fr<0:=Aa;have b4:¬1073741824<=c.fr:=Aa;have b5:¬(400:Int)<(x.ls.length:Int):=Aa
 go_upto_region 5 with fail
 have qR:=zz (show Ae d w.heap.size 40 (row 297 (Ak c.fr c.F (AO Z c.V Y)))from by rw[W];exact B1.o)
 go_upto_region 6 with(refine Cb rfl 38 _ rfl w.heap.size 1 296 rfl qR.o Aa _ underlying38 rfl Ap ?_)
 have u:=zz (fun(k:Nat) (hk:k<4) (w:World)=>KI (fun j=>Ak c.fr c.F (AO Z c.V Y) (1+j)) k hk w);obtain⟨R4,v⟩:=AJ (row 296 fun j=>Ak c.fr c.F (AO Z c.V Y) (1+j));rw[v]at u ⊢;clear v b1 b2 b3 b4 b5 qW qU
 go_loopw[43] (fun i wr=>∃k:Nat,k<=j0/\i=.int .i64 k/\Below d.heap.size d wr) (fun i _=>4-(intOf i).toNat)
 .exact⟨0,Aa,rfl,Below.refl _ _⟩
 obtain⟨k,hk,rfl,hb⟩:=hrel;have qV:=zz hb;clear hb;have L:k<4:=Aa;have rq:(k:Int)<4:=Aa;have M:=u.o k L;rw[Tq c.fr c.F (AO Z c.V Y) k L]at M;have iN:(prog.info? 37).map (·.size)=some (row 74 (Ab (c.F k) (AO Z c.V Y k))).size:=Eg;have zN:(zeroCells37).size=(row 74 (Ab (c.F k) (AO Z c.V Y k))).size:=Eg;have s:=Cv (l.o k L) (A:=Z k) (n:=(c.V k).length) (c:=Y k)
 rw[show(.slice (Z k) (c.V k).length (Y k):Value)=AO Z c.V Y k from rfl]at s
 obtain⟨z,C,qY⟩:∃z:Int,c.F k 0=.int .i64 z/\((k<j0/\z=k)\/(k=j0/\z≠k)):=by
  rcases Nat.lt_or_ge k j0 with g|g
  . exact⟨_,qQ.o k g,.inl ⟨g,rfl⟩⟩
  obtain rfl:k=j0:=Aa;exact⟨t,HZ.o.1,.inr ⟨rfl,HZ.o.2⟩⟩
 have cN:(row 74 (Ab (c.F k) (AO Z c.V Y k)))[0]?=some (.int .i64 z):=by rw[Ah Aa];unfold Ab;rw[Aj Aa,C]
 obtain⟨q,G⟩:=AJ (row 74 (Ab (c.F k) (AO Z c.V Y k)));rw[G]at M iN zN s cN;clear G;have F1:Hid (Ae (wr.alloc (.cells zeroCells37 37)) wr.heap.size 37 zeroCells37):=zz (Ae.fresh _ _ _)
 go_upto_region 8 with(refine wpList_store_row rfl 37 _ _ rfl wr.heap.size q rfl rfl 37 _ F1.o iN zN s ?_)
 have H:=below_setRow ((Below.refl wr.heap.size wr).alloc Nr (.cells zeroCells37 37)) Nr q;have N:=CU qV H;have yn:=(F1.o.setRow q).cell 0;rw[cN]at yn;clear F1 H M iN zN s cN C
 generalize((wr.alloc (.cells zeroCells37 37)).setRow wr.heap.size q)=wn at*
 rcases qY with⟨g,rfl⟩|⟨rfl,R⟩
 .have p:((k:Int)!=(k:Int))=false:=Bq;go_wp2_with fail;exact⟨⟨k+1,Aa,BG,N.o⟩,Ck⟩
 have p:(z !=(k:Int))=true:=by simp[R]
 have ru:decide (z=(k:Int))=false:=decide_eq_false R;have E:=zz (I.o.below N.o I.o.lt);have m:=zz (Bh f.o Nr N.o);clear R
 go_wp2_with(first
  |(refine Dj rfl 40 _ rfl (.agg zeroCells40) (O.o _) ?_)
  |(refine wpList_store_row rfl 40 _ _ rfl (w.heap.size+2) zeroCells40 rfl rfl 40 _ E.o J rfl oZ ?_))
 exact CR (x:=.slice none 0 0) (y:=.int .i64 7) rfl rfl rfl rfl (E.o.setRow zeroCells40) ⟨by rw[underlying40],J⟩ rfl ⟨rfl,below_setRow m.o Aa _⟩
def O1(c:Du)(x:He)(M:∀i,i<4->∀j,j<73->C9 (Ar j) (c.F i j))(p:Nat->Option Addr)(s:Nat->Nat)(H:Option Addr)(B:Nat)(w:World)(I:Int)(h:(I=3/\(x.bad< -1\/3<x.bad\/c.fr<0\/1073741824<=c.fr))\/(I=6/\(-1<=x.bad/\x.bad<=3/\0<=c.fr/\c.fr<1073741824)/\400<x.ls.length)\/(I=7/\(-1<=x.bad/\x.bad<=3/\0<=c.fr/\c.fr<1073741824)/\x.ls.length<=400/\∃j0,j0<4/\(∀i,i<j0->c.F i 0=.int .i64 (i:Int))/\∃J,c.F j0 0=.int .i64 J/\J≠(j0:Int))):
  Calls prog 8 #[.agg (row 297 (Ak c.fr c.F (AO p c.V s))),.agg (row 14 (BP x.rd x.bad (.slice H x.ls.length B)))] w fun e w'=>e=.returned (.tuple #[.agg zeroCells40,.slice none 0 0,.int .i64 I])/\Below w.heap.size w w':=by
 have qR:=zz M;clear M;obtain⟨Z,T⟩:=AJ (row 297 (Ak c.fr c.F (AO p c.V s)));obtain⟨Y,W⟩:=AJ (row 14 (BP x.rd x.bad (.slice H x.ls.length B)));rw[T,W]
 have c0:Z[0]?=some (.int .i64 c.fr):=by rw[←T,Ah Aa];rfl
 have C:Y[12]?=some (.int .i64 x.bad):=by rw[←W,Ah Aa];rfl
 have A:Y[13]?=some (.slice H x.ls.length B):=by rw[←W,Ah Aa];rfl
 have B1:=zz (show Ae (((w.alloc (.cells Z 40)).alloc (.cells Y 43)).alloc (.cells zeroCells40 40)) w.heap.size 40 Z from((show Ae (w.alloc (.cells Z 40)) w.heap.size 40 Z from Ae.fresh _ _ _).alloc _).alloc _)
 have l:=zz (show Ae (((w.alloc (.cells Z 40)).alloc (.cells Y 43)).alloc (.cells zeroCells40 40)) (w.heap.size+1) 43 Y from(Tx _ _ _ _).alloc _)
 have O:=zz (show Ae (((w.alloc (.cells Z 40)).alloc (.cells Y 43)).alloc (.cells zeroCells40 40)) (w.heap.size+2) 40 zeroCells40 from YD _ _ _ _ _)
 have u:=zz ((((Below.refl w.heap.size w).alloc Nr (.cells Z 40)).alloc Bq (.cells Y 43)).alloc Ec (.cells zeroCells40 40));have X:=zz (fun w=>(by kernel_rfl:(Instr.build 40 #[]).run prog w=.ok (.agg zeroCells40) w));have R:(prog.info? 40).map (·.size)=some (zeroCells40).size:=Ap;have t:(zeroCells40).all (·.oneCell')=true:=Ap;have r:=zz T
 go_in
 go_upto_region 1 with fail
 generalize(((w.alloc (.cells Z 40)).alloc (.cells Y 43)).alloc (.cells zeroCells40 40))=w1 at*
 have D:=(l.o.cell 12).trans C;have v:=(l.o.cell 13).trans A;have y0:=(B1.o.cell 0).trans c0
 rcases h with⟨rfl,h⟩|⟨rfl,h,hl⟩|⟨rfl,h,hl,j0,hj,N,J,L⟩
 .have h:x.bad< -1\/(¬x.bad< -1/\(3<x.bad))\/(¬x.bad< -1/\¬(3<x.bad)/\c.fr<0)\/(¬x.bad< -1/\¬(3<x.bad)/\¬c.fr<0/\1073741824<=c.fr):=Aa
  rcases h with h|⟨b,f⟩|⟨b,f,h3⟩|⟨b,f,h3,h4⟩
  all_goals
   go_wp2_with(first
    |(refine Dj rfl 40 _ rfl (.agg zeroCells40) (X.o _) ?_)
    |(refine wpList_store_row rfl 40 _ _ rfl (w.heap.size+2) zeroCells40 rfl rfl 40 _ O.o R rfl t ?_))
   exact CR (x:=.slice none 0 0) (y:=.int .i64 3) rfl rfl rfl rfl (O.o.setRow zeroCells40) ⟨by rw[underlying40],R⟩ rfl ⟨rfl,below_setRow u.o Aa _⟩
 .have m:(400:Int)<(x.ls.length:Int):=Aa;have b1:¬x.bad< -1:=Aa;have d:¬(3<x.bad):=Aa;have b3:¬c.fr<0:=Aa;have n:¬1073741824<=c.fr:=Aa
  go_wp2_with(first
   |(refine Dj rfl 40 _ rfl (.agg zeroCells40) (X.o _) ?_)
   |(refine wpList_store_row rfl 40 _ _ rfl (w.heap.size+2) zeroCells40 rfl rfl 40 _ O.o R rfl t ?_))
  exact CR (x:=.slice none 0 0) (y:=.int .i64 6) rfl rfl rfl rfl (O.o.setRow zeroCells40) ⟨by rw[underlying40],R⟩ rfl ⟨rfl,below_setRow u.o Aa _⟩
 have E:=zz N;have HZ:=zz L;clear N L;have b1:¬x.bad< -1:=Aa;have d:¬(3<x.bad):=Aa;have b3:¬c.fr<0:=Aa;have n:¬1073741824<=c.fr:=Aa;have m:¬(400:Int)<(x.ls.length:Int):=Aa
 go_upto_region 5 with fail
 clear b1 d b3 n
 go_upto_region 6 with fail
 clear m D v y0
 go_loopw[42] (fun i wr=>∃k:Nat,k<=j0/\i=.int .i64 k/\wr=w1) (fun i _=>4-(intOf i).toNat)
 .exact⟨0,Aa,rfl,rfl⟩
 obtain⟨k,hk,rfl,rfl⟩:=hrel;have qW:k<4:=Aa;have qU:(0:Int)<=(k:Int):=Aa;have qV:(k:Int)<4:=Aa
 obtain⟨z,L,q⟩:∃z:Int,c.F k 0=.int .i64 z/\((k<j0/\z=k)\/(k=j0/\z≠k)):=by
  rcases Nat.lt_or_ge k j0 with g|g
  . exact⟨_,E.o k g,.inl ⟨g,rfl⟩⟩
  obtain rfl:k=j0:=Aa;exact⟨J,HZ.o.1,.inr ⟨rfl,HZ.o.2⟩⟩
 have yk:=B1.o.cell (1+k*74)
 rw[←r.o,Ah Aa,show Ak c.fr c.F (AO p c.V s) (1+k*74)=c.F k 0 from by
  unfold Ak
  rw[Aj Aa,show(1+k*74-1)/74=k by omega,show(1+k*74-1)%74=0 by omega]
  unfold Ab
  rw[Aj Aa],L]at yk
 clear L
 rcases q with⟨g,rfl⟩|⟨rfl,U⟩
 .have G:((k:Int)!=(k:Int))=false:=Bq;go_wp2_with fail;exact⟨⟨k+1,Aa,BG,trivial⟩,Ck⟩
 have G:(z !=(k:Int))=true:=by simp[U]
 have qQ:decide (z=(k:Int))=false:=decide_eq_false U;clear U
 go_wp2_with(first
  |(refine Dj rfl 40 _ rfl (.agg zeroCells40) (X.o _) ?_)
  |(refine wpList_store_row rfl 40 _ _ rfl (w.heap.size+2) zeroCells40 rfl rfl 40 _ O.o R rfl t ?_))
 exact CR (x:=.slice none 0 0) (y:=.int .i64 7) rfl rfl rfl rfl (O.o.setRow zeroCells40) ⟨by rw[underlying40],R⟩ rfl ⟨rfl,below_setRow u.o Aa _⟩
end Cf
end Go.Proofs.YtjobajeggllmiaaGreat
