import Derived.Test.YtjobajeggllmiaaGreatPc0
import Derived.Test.YtjobajeggllmiaaGreatPc8
set_option linter.all false
set_option maxHeartbeats 100000000
set_option maxRecDepth 100000
namespace Go.Proofs.YtjobajeggllmiaaGreat
namespace Ms
end Ms
open Ms Rg _root_.Go.Proofs.Tryz
namespace Cl
open Go.ChangeShapes Go.WideShapes Go.ChangeAt Go.RowKit Mem Rws Nd
structure IC where
 p:Int
 t:Int
 bs:List Nat
instance:Inhabited IC:=⟨⟨0,0,[]⟩⟩
def Ov(l:IC)(A:Option Addr)(c:Nat):List Value:=[.int .i64 l.p,.int .i64 l.t,.slice A l.bs.length c]
def Co(w:World)(B:Nat)(A:Option Addr)(ls:List IC):Prop:=
 ∃Z,Rd w B 3 A ls.length Z/\∀i l,ls[i]?=some l->∃a c,(Z.drop (i*3)).take 3=Ov l a c/\(a=none->c=0)/\l.bs.length<=c/\(l.bs.length<=140737488351232/\c<=9223372036854775807)/\(∀x∈l.bs,x<256)/\Rd w B 1 a l.bs.length (Sm.Br l.bs)
def Co.keep{w w':World}{B:Nat}{A:Option Addr}{ls:List IC}(h:Co w B A ls)(Z:∀b o,b<B-> w'.cell? ⟨b,o,none⟩= w.cell? ⟨b,o,none⟩):Co w' B A ls:=by
 obtain⟨N,X,Y⟩:=h;refine⟨N,X.keep Z,fun i l O=>?_⟩;obtain⟨a,c,V,W,U,T,R,M⟩:=Y i l O;exact⟨a,c,V,W,U,T,R,M.keep Z⟩
def Co.below{w w':World}{B:Nat}{A:Option Addr}{ls:List IC}(h:Co w B A ls)(hb:Below B w w'):Co w' B A ls:=h.keep fun b o Z=>hb.cell (p:=⟨b,o,none⟩) Z
def Co.nil(w:World)(B:Nat)(A:Option Addr):Co w B A []:=⟨[],Rd.nil _ _ _ _,fun i l h=>by simp at h⟩
def Co.at{w:World}{B:Nat}{A:Option Addr}{ls:List IC}(h:Co w B A ls){i:Nat}{l:IC}(X:ls[i]?=some l):∃b o a c,A=some ⟨b,o,none⟩/\b<B/\ w.cell? ⟨b,o+i*3,none⟩=some (.int .i64 l.p)/\ w.cell? ⟨b,o+i*3+1,none⟩=some (.int .i64 l.t)/\ w.cell? ⟨b,o+i*3+2,none⟩=some (.slice a l.bs.length c)/\(a=none->c=0)/\l.bs.length<=c/\(l.bs.length<=140737488351232/\c<=9223372036854775807)/\(∀x∈l.bs,x<256)/\Rd w B 1 a l.bs.length (Sm.Br l.bs):=by
 obtain⟨I,U,V⟩:=h;obtain⟨a,c,R,T,O,N,M,J⟩:=V i l X;have hi:i<ls.length:=(List.getElem?_eq_some_iff.1 X).1;obtain⟨b,o,e,hb,W⟩:=U.2 Aa
 have Z:∀j v,j<3->(Ov l a c)[j]?=some v-> w.cell? ⟨b,o+i*3+j,none⟩=some v:=fun j v L Y=>by
  rw[←R,List.getElem?_take,Ao L,List.getElem?_drop]at Y;have:=W _ _ Y
  rwa[←Nat.add_assoc]at this
 exact⟨b,o,a,c,e,hb,Z 0 _ Aa rfl,Z 1 _ Aa rfl,Z 2 _ Aa rfl,T,O,N,M,J⟩
def goes(Z Y:Int)(l:IC):Prop:=0<=Z/\l.p=Y/\0<=l.t/\l.t<4/\l.t≠Z
open Classical in
noncomputable def Ga(Z Y:Int)(g:Nat->List Cw)(l:IC):Nat->List Cw:=if goes Z Y l then setAt g l.t.toNat (g l.t.toNat++(came Z l.bs).toList)else g
noncomputable def Fg(g:Nat->List Cw)(Z Y:Int)(ls:List IC):Nat->List Cw:=ls.foldl (Ga Z Y) g
def aV(g:Nat->List Cw)(Z Y:Int){ls:List IC}{j:Nat}{l:IC}(X:ls[j]?=some l):Fg g Z Y (ls.take (j+1))=Ga Z Y (Fg g Z Y (ls.take j)) l:=by
 unfold Fg
 rw[List.take_add_one,X,Option.toList_some,List.foldl_append];rfl
def KV{Z Y:Int}{g:Nat->List Cw}{l:IC}(h:¬goes Z Y l):Ga Z Y g l=g:=Aj h
def kW{Z X:Int}{g:Nat->List Cw}{l:IC}{Y:Nat}(h:goes Z X l)(e:l.t=(Y:Int)):Ga Z X g l=setAt g Y (g Y++(came Z l.bs).toList):=by
 unfold Ga
 rw[Ao h,e];rfl
def Ql(f:Int)(Z:List Nat):(came f Z).toList.length<=1:=by
 cases came f Z<;>simp
def iU(Z Y:Int)(g:Nat->List Cw)(l:IC)(i:Nat):(Ga Z Y g l i).length<=(g i).length+1:=by
 unfold Ga
 split
 .unfold setAt
  split
  .rename_i h;subst h
   have:=Ql Z l.bs;rw[List.length_append];omega
  omega
 omega
def PE(Z Y:Int):∀(ls:List IC) (g:Nat->List Cw) (i:Nat),(Fg g Z Y ls i).length<=(g i).length+ls.length
 |[],g,i=>Nat.le_refl _
 |l::ls,g,i=>by
  have W:=PE Z Y ls (Ga Z Y g l) i;have X:=iU Z Y g l i
  show(Fg (Ga Z Y g l) Z Y ls i).length<=_
  rw[List.length_cons];omega
def Bl.ko(s:Bl):s.cell 309=.int .i64 s.bad:=by
 unfold Bl.cell
 rw[Aj Aa,Aj Aa,Aj Aa,Ao rfl]
def Bl.au(s:Bl):s.cell 310=.slice s.LA s.LL s.LC:=by
 unfold Bl.cell
 rw[Aj Aa,Aj Aa,Aj Aa,Aj Aa,Ao rfl]
def Cj.jP{w:World}{R Z:Nat}{s:Bl}(h:Cj w R Z s): w.cell? ⟨R,309,none⟩=some (.int .i64 s.bad):=by
 have:=h.blk.cell 309
 rwa[Ah Aa,s.ko]at this
def Cj.mP{w:World}{R Z:Nat}{s:Bl}(h:Cj w R Z s): w.cell? ⟨R,310,none⟩=some (.slice s.LA s.LL s.LC):=by
 have:=h.blk.cell 310
 rwa[Ah Aa,s.au]at this
def mE(R z:Nat)(s:Bl)(U:Int)(ls:List IC)(qQ:s.LL=ls.length)(w:World)(h:Cj w R z s)(m:Co w z s.LA ls)(hn:ls.length<=400)(D:∀i,i<4->(s.bX i).length<=100000):
  Calls prog 34 #[.pointer (some ⟨R,0,none⟩),.int .i64 U] w fun e w'=>e=.returned (.tuple #[])/\∃V W,Cj w' R z (s.boxes V (Fg s.bX s.bad U ls) W)/\Keep w w' R s (s.boxes V (Fg s.bX s.bad U ls) W):=by
 have k:=zz h;have qV:=zz m;have HL:=zz D;have y0:=h.mP;rw[qQ]at y0;clear h m D
 go_in
 go_wp2_with fail;clear y0
 go_loopw[12] (fun i wr=>∃j:Nat,j<=ls.length/\i=.int .i64 j/\∃V W,Cj wr R z (s.boxes V (Fg s.bX s.bad U (ls.take j)) W)/\Keep w wr R s (s.boxes V (Fg s.bX s.bad U (ls.take j)) W)) (fun i _=>ls.length-(intOf i).toNat)
 .exact⟨0,Aa,rfl,s.bA,s.bC,k.o,Keep.refl _ _ _⟩
 obtain⟨j,hj,rfl,V,W,I,O⟩:=hrel;have Z:=zz I;have Y:=zz O;have E:=zz (qV.o.below (O.below k.o));clear I O
 by_cases d:j<ls.length
 .have c:ls[j]?=some ls[j]:=List.getElem?_eq_getElem d;generalize ls[j]=l at c;have M:=zz (aV s.bX s.bad U c);obtain⟨b,o,a,ca,e,qZ,x0,x1,x2,h2,h3,h4,h5,h6⟩:=E.o.at c;have qU:=zz h5;have qY:(0:Int)<=(j:Int):=Aa;have qX:(j:Int)<(ls.length:Int):=Aa;have u:=zz h6;have A:=zz (Nat.le_trans Z.o.low (Nat.le_of_lt Z.o.blk.lt));rw[e];clear h5 h6 c
  go_upto_region 3 with fail
  have hb:Below wr.heap.size wr (wr.alloc (.cells (J7 l.p l.t a l.bs.length ca) 76)):=DC
  have PB:=zz (show Ae (wr.alloc (.cells (J7 l.p l.t a l.bs.length ca) 76)) wr.heap.size 76 (J7 l.p l.t a l.bs.length ca)from Ae.fresh _ _ _)
  have Z:=zz (Z.o.below hb);have Y:=zz (Y.o.trans (Keep.of_below (R:=R) (s:=(s.boxes V (Fg s.bX s.bad U (ls.take j)) W)) hb));have T:=zz (u.o.below (hb.mono A.o));clear hb x0 x1 x2 u E
  generalize(wr.alloc (.cells (J7 l.p l.t a l.bs.length ca) 76))=wv at*
  obtain⟨x,n⟩:=AJ (wr.heap.size);rw[n]at PB ⊢;clear n;have C:=PB.o.cell 0;have L:=PB.o.cell 1;have H:=PB.o.cell 2;simp only[List.getElem?_toArray,List.getElem?_cons_zero,List.getElem?_cons_succ]at C L H;have G: wv.cell? ⟨R,309,none⟩=some (.int .i64 s.bad):=Z.o.jP
  by_cases c1:0<=s.bad
  rotate_left 1
  .have X:=zz (KV (g:=Fg s.bX s.bad U (ls.take j)) (show ¬goes s.bad U l from fun h=>c1 h.1))
   go_quiet (fail)
   have hb:Below wv.heap.size wv (wv.drewN nq):=⟨rfl,rfl,rfl,Nat.le_refl _,fun _ _=>rfl⟩;have Z:=zz (Z.o.below hb);have Y:=zz (Y.o.trans (Keep.of_below (R:=R) (s:=(s.boxes V (Fg s.bX s.bad U (ls.take j)) W)) hb));clear hb G C L H
   generalize(wv.drewN nq)=wz at*
   go_wp2_with fail;exact⟨⟨j+1,Aa,BG,V,W,by rw[M.o,X.o];exact Z.o,by rw[M.o,X.o];exact Y.o⟩,Ck⟩
  by_cases c2:l.p=U
  rotate_left 1
  .have hq:(l.p==U)=false:=by simp[c2]
   have X:=zz (KV (g:=Fg s.bX s.bad U (ls.take j)) (show ¬goes s.bad U l from fun h=>c2 h.2.1))
   go_quiet (fail)
   have hb:Below wv.heap.size wv (wv.drewN nq):=⟨rfl,rfl,rfl,Nat.le_refl _,fun _ _=>rfl⟩;have Z:=zz (Z.o.below hb);have Y:=zz (Y.o.trans (Keep.of_below (R:=R) (s:=(s.boxes V (Fg s.bX s.bad U (ls.take j)) W)) hb));clear hb G C L H
   generalize(wv.drewN nq)=wz at*
   go_wp2_with fail;exact⟨⟨j+1,Aa,BG,V,W,by rw[M.o,X.o];exact Z.o,by rw[M.o,X.o];exact Y.o⟩,Ck⟩
  subst c2
  by_cases c3:0<=l.t
  rotate_left 1
  .have X:=zz (KV (g:=Fg s.bX s.bad l.p (ls.take j)) (show ¬goes s.bad l.p l from fun h=>c3 h.2.2.1))
   go_quiet (fail)
   have hb:Below wv.heap.size wv (wv.drewN nq):=⟨rfl,rfl,rfl,Nat.le_refl _,fun _ _=>rfl⟩;have Z:=zz (Z.o.below hb);have Y:=zz (Y.o.trans (Keep.of_below (R:=R) (s:=(s.boxes V (Fg s.bX s.bad l.p (ls.take j)) W)) hb));clear hb G C L H
   generalize(wv.drewN nq)=wz at*
   go_wp2_with fail;exact⟨⟨j+1,Aa,BG,V,W,by rw[M.o,X.o];exact Z.o,by rw[M.o,X.o];exact Y.o⟩,Ck⟩
  by_cases c4:l.t<4
  rotate_left 1
  .have X:=zz (KV (g:=Fg s.bX s.bad l.p (ls.take j)) (show ¬goes s.bad l.p l from fun h=>c4 h.2.2.2.1))
   go_quiet (fail)
   have hb:Below wv.heap.size wv (wv.drewN nq):=⟨rfl,rfl,rfl,Nat.le_refl _,fun _ _=>rfl⟩;have Z:=zz (Z.o.below hb);have Y:=zz (Y.o.trans (Keep.of_below (R:=R) (s:=(s.boxes V (Fg s.bX s.bad l.p (ls.take j)) W)) hb));clear hb G C L H
   generalize(wv.drewN nq)=wz at*
   go_wp2_with fail;exact⟨⟨j+1,Aa,BG,V,W,by rw[M.o,X.o];exact Z.o,by rw[M.o,X.o];exact Y.o⟩,Ck⟩
  by_cases v:l.t=s.bad
  .have hq:(l.t !=s.bad)=false:=by simp[v]
   have X:=zz (KV (g:=Fg s.bX s.bad l.p (ls.take j)) (show ¬goes s.bad l.p l from fun h=>h.2.2.2.2 v))
   clear v
   go_quiet (fail)
   have hb:Below wv.heap.size wv (wv.drewN nq):=⟨rfl,rfl,rfl,Nat.le_refl _,fun _ _=>rfl⟩;have Z:=zz (Z.o.below hb);have Y:=zz (Y.o.trans (Keep.of_below (R:=R) (s:=(s.boxes V (Fg s.bX s.bad l.p (ls.take j)) W)) hb));clear hb G C L H
   generalize(wv.drewN nq)=wz at*
   go_wp2_with fail;exact⟨⟨j+1,Aa,BG,V,W,by rw[M.o,X.o];exact Z.o,by rw[M.o,X.o];exact Y.o⟩,Ck⟩
  have qW:=zz (show goes s.bad l.p l from⟨c1,rfl,c3,c4,v⟩)
  obtain⟨N,F⟩:=Int.eq_ofNat_of_zero_le c3;have q:N<4:=Aa
  have X:=zz (show Fg s.bX s.bad l.p (ls.take (j+1))=setAt (Fg s.bX s.bad l.p (ls.take j)) N (Fg s.bX s.bad l.p (ls.take j) N++(came s.bad l.bs).toList)from by rw[M.o];exact kW qW.o F)
  have qR:=zz (show((Fg s.bX s.bad l.p (ls.take j) N).length+1)*48<=140737488351232 from by
   have h1:=PE s.bad l.p (ls.take j) s.bX N;have h2:=HL.o N q
   have h3:(ls.take j).length<=400:=by rw[List.length_take];omega
   omega)
  have hq:((N:Int)!=s.bad)=true:=by rw[←F];simp[v]
  have rq:(0:Int)<=(N:Int):=Aa;have ru:(N:Int)<4:=Aa;rw[F]at L;clear c3 c4 v F
  go_quiet (fail)
  have hb:Below wv.heap.size wv (wv.drewN nq):=⟨rfl,rfl,rfl,Nat.le_refl _,fun _ _=>rfl⟩;have Z:=zz (Z.o.below hb);have Y:=zz (Y.o.trans (Keep.of_below (R:=R) (s:=(s.boxes V (Fg s.bX s.bad l.p (ls.take j)) W)) hb))
  have T:=zz (show Rd (wv.drewN nq) z 1 a l.bs.length (Sm.Br l.bs)from T.o)
  have G:=(show(wv.drewN nq).cell? ⟨R,309,none⟩=some (.int .i64 s.bad)from G)
  have L:=(show(wv.drewN nq).cell? ⟨x,1,none⟩=some (.int .i64 (N:Int))from L)
  have H:=(show(wv.drewN nq).cell? ⟨x,2,none⟩=some (.slice a l.bs.length ca)from H)
  clear hb C
  generalize(wv.drewN nq)=wv at*
  go_upto_region 4 with fail
  clear hq;have hb:Below wv.heap.size wv wv.drew:=(Below.refl _ _).drew;have Z:=zz (Z.o.below hb);have Y:=zz (Y.o.trans (Keep.of_below (R:=R) (s:=(s.boxes V (Fg s.bX s.bad l.p (ls.take j)) W)) hb));have T:=zz (T.o.drew);have HS: wv.drew.cell? ⟨R,309,none⟩=some (.int .i64 s.bad)/\ wv.drew.cell? ⟨x,1,none⟩=some (.int .i64 (N:Int))/\ wv.drew.cell? ⟨x,2,none⟩=some (.slice a l.bs.length ca):=⟨G,L,H⟩;have A:=zz (Nat.le_trans Z.o.low (Nat.le_of_lt Z.o.blk.lt));have T:=zz (T.o.more A.o);clear hb G L H;refine wp_region_noPanic ?_;refine A8 [5,7,9] (fun w'=> w'.cell? ⟨R,309,none⟩=some (.int .i64 s.bad)/\ w'.cell? ⟨x,1,none⟩=some (.int .i64 (N:Int))/\ w'.cell? ⟨x,2,none⟩=some (.slice a l.bs.length ca)) Ap ?_
  generalize wv.drew=wd at*
  refine Ac 0 ?_;refine Ac 1 ?_;refine Ac 2 ?_;refine Ac 3 ?_;refine Ac 4 ?_;refine Bc 5 HS ?_;refine Ac 6 ?_;refine Bc 7 HS ?_;refine Ac 8 ?_;refine Bc 9 HS ?_;refine Aw 10 ?_;refine AX ?_ ?_
  . kernel_rfl
  intro K hK;rw[Ao Bb];go_simp
  go_at_call 66
  refine(OW R z (s.boxes V (Fg s.bX s.bad l.p (ls.take j)) W) s.bad N q a ca l.bs wd.heap.size wd Z.o qR.o Nr h2 h3 GX Aa qU.o T.o).mono ?_;rintro e w4 ⟨rfl,s',J,I,O⟩;obtain⟨B,y,rfl⟩:=J.boxes
  have r:=zz (show Cj w4 R z (s.boxes B (Fg s.bX s.bad l.p (ls.take (j+1))) y)from by rw[X.o];exact I)
  have f:=zz (show Keep w w4 R s (s.boxes B (Fg s.bX s.bad l.p (ls.take (j+1))) y)from by rw[X.o];exact Y.o.trans O)
  clear I O J HS;refine hK.o _ _ ?_;(try simp only[Rg.lp]);refine Bg Ap ?_ _;refine NoPanic.normal ?_;go_wp2_with fail;exact⟨⟨j+1,Aa,BG,B,y,r.o,f.o⟩,Ck⟩
 obtain rfl:j=ls.length:=Aa;clear d;rw[List.take_length]at Z Y;go_wp2_with fail;refine bodyPost_end (results_none rfl _ _ _) rfl ?_;exact⟨rfl,V,W,Z.o,Y.o⟩
end Cl
namespace Ms
open Go.ChangeShapes Go.WideShapes Go.ChangeAt Go.RowKit Mem Go.Proofs.YtjobajeggllmiaaGreat.Op Rws Nd
def fit(id Y Z:Int)(many:Nat)(X:Int)(m:Cw):Bool:=m.f==X&&m.f !=id&&m.k==Z&&m.n==Y&&(m.zs.length:Int)==(many:Int)
def Be(id X Z:Int)(many:Nat)(W:Int)(Y:List Cw):Option Cw:= Y.find? (fit id X Z many W)
def kS{α:Type}{p:α->Bool}{Z:List α}{k:Nat}{m:α}(X:(Z.take k).find? p=none)(Y:Z[k]?=some m)(hp:p m=true): Z.find? p=some m:=by
 have W:k<Z.length:=(List.getElem?_eq_some_iff.1 Y).1
 have e:Z=Z.take k++m::Z.drop (k+1):=by
  rw[(List.getElem?_eq_some_iff.1 Y).2.symm,List.getElem_cons_drop,List.take_append_drop]
 rw[e,List.find?_append,X]
 simp[hp]
def gZ{α:Type}{p:α->Bool}{Z:List α}{k:Nat}{m:α}(Y:(Z.take k).find? p=none)(X:Z[k]?=some m)(hp:p m=false):(Z.take (k+1)).find? p=none:=by
 rw[List.take_add_one,X,List.find?_append,Y]
 simp[hp]
def TH(w:World)(B:Nat)(o:Option Cw)(e:Ending):Prop:=
 match o with
 |some m=>∃a c,e=.returned (.tuple #[.slice a m.zs.length c,.bool true])/\(a=none->c=0)/\m.zs.length<=c/\Rd w B 1 a m.zs.length (AQ m.zs)
 |none=>e=.returned (.tuple gu)
def L9(R:Array Value)(id V:Int)(E:R[0]?=some (.int .i64 id))(h1:R[1]?=some (.int .i64 V))(A:Option Addr)(c:Nat)(ms:List Cw)(fm kind:Int)(many:Nat)(B:Nat)(w:World)(hB:B<=w.heap.size)(hl:ms.length<=140737488355328)(hr:Cc w B A ms):
  Calls prog 52 #[.agg R,.slice A ms.length c,.int .i64 fm,.int .i64 kind,.int .i64 (many:Int)] w fun e w'=>TH w' B (Be id V kind many fm ms) e/\Below w.heap.size w w':=by
 have d:=zz hr;have x:=zz E;have H1:=zz h1;clear hr E h1
 go_in
 go_wp2_with fail
 go_loopw[16] (fun i wr=>∃(k:Nat),k<=ms.length/\i=.int .i64 k/\Be id V kind many fm (ms.take k)=none/\Ae wr w.heap.size 37 R/\Below w.heap.size w wr) (fun i _=>ms.length-(intOf i).toNat)
 .exact⟨0,Aa,rfl,rfl,Ae.new rfl,DC⟩
 obtain⟨k,hk,rfl,T,G,hb⟩:=hrel
 by_cases L:k<ms.length
 .have J:ms[k]?=some ms[k]:=List.getElem?_eq_getElem L
  generalize ms[k]=m at*
  have U:=zz (fun(F:fit id V kind many fm m=true)=>show Be id V kind many fm ms=some m from kS T J F)
  have W:=zz (fun(F:fit id V kind many fm m=false)=>show Be id V kind many fm (ms.take (k+1))=none from gZ T J F)
  obtain⟨b,o,a,ca,rfl,C,t,y,z,s,q,j,h4,D⟩:=(d.o.below (hb.mono hB)).at J;have H:=zz D;have X:=zz hb;have O:=zz G;have l:(0:Int)<=(k:Int):=Aa;have v:(k:Int)<(ms.length:Int):=Aa;have I:=hb.size;clear hb G J T D
  go_upto_region 4 with fail
  have M:=zz (show Ae (wr.alloc (.cells (BL m.k m.f m.n a m.zs.length ca) 65)) wr.heap.size 65 (BL m.k m.f m.n a m.zs.length ca)from Ae.fresh _ _ _)
  have N:=zz (O.o.alloc (.cells (BL m.k m.f m.n a m.zs.length ca) 65));have X:=zz (X.o.alloc X.o.size (.cells (BL m.k m.f m.n a m.zs.length ca) 65));have H:=zz (H.o.alloc (Nat.le_trans hB I) (.cells (BL m.k m.f m.n a m.zs.length ca) 65));have p:=M.o.cell 0;have u:=M.o.cell 1;have r:=M.o.cell 2;have y3:=M.o.cell 3;have z0:=(N.o.cell 0).trans x.o;have z1:=(N.o.cell 1).trans H1.o;simp only[List.getElem?_toArray,List.getElem?_cons_zero,List.getElem?_cons_succ]at p u r y3
  have Y:=zz (show fit id V kind many fm m=(m.f==fm&&m.f !=id&&m.k==kind&&m.n==V&&(m.zs.length:Int)==(many:Int))from rfl)
  clear t y z s O M
  generalize(wr.alloc (.cells (BL m.k m.f m.n a m.zs.length ca) 65))=w2 at*
  generalize wr.heap.size=g at*
  cases e1:(m.f==fm)with
  |false=>
   have Z:=zz (W.o (by rw[Y.o];simp only[e1,Bool.false_and,Bool.and_false]));clear Y U W;go_wp2_with fail;exact⟨⟨k+1,Aa,BG,Z.o,N.o,X.o⟩,Ck⟩
  |true=>
   cases e2:(m.f !=id)with
   |false=>
    have Z:=zz (W.o (by rw[Y.o];simp only[e1,e2,Bool.false_and,Bool.and_false]));clear Y U W;go_wp2_with fail;exact⟨⟨k+1,Aa,BG,Z.o,N.o,X.o⟩,Ck⟩
   |true=>
    cases e3:(m.k==kind)with
    |false=>
     have Z:=zz (W.o (by rw[Y.o];simp only[e1,e2,e3,Bool.false_and,Bool.and_false]));clear Y U W;go_wp2_with fail;exact⟨⟨k+1,Aa,BG,Z.o,N.o,X.o⟩,Ck⟩
    |true=>
     cases e4:(m.n==V)with
     |false=>
      have Z:=zz (W.o (by rw[Y.o];simp only[e1,e2,e3,e4,Bool.false_and,Bool.and_false]));clear Y U W;go_wp2_with fail;exact⟨⟨k+1,Aa,BG,Z.o,N.o,X.o⟩,Ck⟩
     |true=>
      cases e5:((m.zs.length:Int)==(many:Int))with
      |false=>
       have Z:=zz (W.o (by rw[Y.o];simp only[e1,e2,e3,e4,e5,Bool.false_and,Bool.and_false]));clear Y U W;go_wp2_with fail;exact⟨⟨k+1,Aa,BG,Z.o,N.o,X.o⟩,Ck⟩
      |true=>
       have Z:=zz (U.o (by rw[Y.o];simp only[e1,e2,e3,e4,e5,Bool.and_self]));clear Y U W;go_wp2_with fail
       go_ret2
       refine⟨?_,X.o⟩;rw[Z.o];exact⟨a,ca,rfl,q,j,H.o⟩
 obtain rfl:k=ms.length:=Aa;clear L;have X:=zz hb;rw[List.take_length]at T;have Z:=zz T;clear hb T G;go_wp2_with fail
 go_ret2
 refine⟨?_,X.o⟩;rw[Z.o];rfl
end Ms
namespace Cl
open Go.RowKit Mem Rws Nd
open Classical in
noncomputable def LZ(Z W:Int)(ls:List IC)(X Y V:Nat->Int)(U:Nat->List Int):Nat->Nat->List Cw
 |0=>fun _=>[]
 |i+1=>if(i:Int)=Z then Fg (LZ Z W ls X Y V U i) Z W ls else J5 (LZ Z W ls X Y V U i) (X i) (Y i) (V i) (U i)
def lQ(g:Nat->List Cw)(f:Int)(l:List Cw)(k i:Nat):(Rk g f l k i).length<=(g i).length+l.length:=by
 unfold Rk
 split
 . rw[List.length_append];omega
 omega
def ZQ(g:Nat->List Cw)(k f n:Int)(Z:List Int)(i:Nat):(J5 g k f n Z i).length<=(g i).length+1:=by
 unfold J5
 split
 . omega
 have X:=lQ g f (came f (Wr.enc k f n Z)).toList 4 i;have Y:=Ql f (Wr.enc k f n Z);omega
def NH(Z X:Int)(ls:List IC)(W Y V:Nat->Int)(U:Nat->List Int)(T:ls.length<=400)(j:Nat):∀i,(LZ Z X ls W Y V U i j).length<=i*401
 |0=>by simp[LZ]
 |i+1=>by
  have R:=NH Z X ls W Y V U T j i
  unfold LZ
  split
  .have:=PE Z X ls (LZ Z X ls W Y V U i) j;omega
  have:=ZQ (LZ Z X ls W Y V U i) (W i) (Y i) (V i) (U i) j;omega
def Dv{α:Type}(Z:Int)(G F:Nat->α)(i j:Nat):α:=if j<i/\(j:Int)≠Z then G j else F j
def IY{α:Type}(Z:Int)(G F:Nat->α):Dv Z G F 0=F:=funext fun j=>Aj Aa
def Dw{α:Type}(Z:Int)(G F:Nat->α)(i:Nat)(h:(i:Int)=Z):Dv Z G F (i+1)=Dv Z G F i:=funext fun j=>by
 unfold Dv
 by_cases e:j=i
 . subst e;rw[Aj Aa,Aj Aa]
 by_cases Y:j<i/\(j:Int)≠Z
 . rw[Ao Y,Ao ⟨Aa,Y.2⟩]
 rw[Aj Y,Aj Aa]
def DV{α:Type}(Z:Int)(G F:Nat->α)(i:Nat)(h:¬(i:Int)=Z):setAt (Dv Z G F i) i (G i)=Dv Z G F (i+1):=funext fun j=>by
 by_cases e:j=i
 . subst e;rw[AY];exact(Ao ⟨Aa,h⟩).symm
 rw[Bj _ _ e]
 unfold Dv
 by_cases Y:j<i/\(j:Int)≠Z
 . rw[Ao Y,Ao ⟨Aa,Y.2⟩]
 rw[Aj Y,Aj Aa]
def Er{α:Type}(Z:Int)(G F:Nat->α)(i:Nat):Dv Z G F i i=F i:=Aj Aa
noncomputable def J6(Z Y:Int)(ls:List IC)(i:Nat):List Cw:=ls.flatMap fun l=>open Classical in if goes Z Y l/\l.t.toNat=i then(came Z l.bs).toList else []
noncomputable def Mv(k f n:Int)(Z:List Int)(i:Nat):List Cw:=if Ms.wrong k f n Z.length≠0 then []else if i<4/\(i:Int)≠f then(came f (Wr.enc k f n Z)).toList else []
noncomputable def part(Z W:Int)(ls:List IC)(X Y V:Nat->Int)(U:Nat->List Int)(i s:Nat):List Cw:=if(s:Int)=Z then J6 Z W ls i else Mv (X s) (Y s) (V s) (U s) i
def Uu(Z Y:Int)(g:Nat->List Cw)(l:IC)(i:Nat):Ga Z Y g l i=g i++(open Classical in if goes Z Y l/\l.t.toNat=i then(came Z l.bs).toList else []):=by
 unfold Ga
 by_cases h:goes Z Y l
 .rw[Ao h]
  by_cases e:l.t.toNat=i
  . subst e;rw[AY,Ao ⟨h,rfl⟩]
  rw[Bj _ _ (fun X=>e X.symm),Aj (fun c=>e c.2),List.append_nil]
 rw[Aj h,Aj (fun c=>h c.1),List.append_nil]
def cB(Z Y:Int)(ls:List IC)(i:Nat):∀g:Nat->List Cw,Fg g Z Y ls i=g i++J6 Z Y ls i:=by
 induction ls with
 |nil=>intro g;exact(List.append_nil _).symm
 |cons l ls ih=>
  intro g;have X:Fg g Z Y (l::ls)=Fg (Ga Z Y g l) Z Y ls:=rfl;rw[X,ih,Uu,List.append_assoc];rfl
def XL(g:Nat->List Cw)(k f n:Int)(Y:List Int)(i:Nat):J5 g k f n Y i=g i++Mv k f n Y i:=by
 unfold J5 Mv
 by_cases h:Ms.wrong k f n Y.length≠0
 . rw[Ao h,Ao h,List.append_nil]
 rw[Aj h,Aj h]
 unfold Rk
 by_cases Z:i<4/\(i:Int)≠f
 . rw[Ao Z,Ao Z]
 rw[Aj Z,Aj Z,List.append_nil]
def M8(Z X:Int)(ls:List IC)(W Y V:Nat->Int)(U:Nat->List Int)(i:Nat):∀n,LZ Z X ls W Y V U n i=(List.range n).flatMap (part Z X ls W Y V U i)
 |0=>rfl
 |n+1=>by
  have R:=M8 Z X ls W Y V U i n;rw[List.range_succ,List.flatMap_append,←R];simp only[List.flatMap_cons,List.flatMap_nil,List.append_nil]
  have T:LZ Z X ls W Y V U (n+1) i=(if(n:Int)=Z then Fg (LZ Z X ls W Y V U n) Z X ls else J5 (LZ Z X ls W Y V U n) (W n) (Y n) (V n) (U n)) i:=by
   show(if(n:Int)=Z then Fg (LZ Z X ls W Y V U n) Z X ls else J5 (LZ Z X ls W Y V U n) (W n) (Y n) (V n) (U n)) i=_
   by_cases h:(n:Int)=Z
   . rw[Ao h]
   rw[Aj h]
  rw[T]
  unfold part
  by_cases h:(n:Int)=Z
  . rw[Ao h,Ao h,cB]
  rw[Aj h,Aj h,XL]
def mem_toList{α:Type}{o:Option α}{m:α}(h:m∈o.toList):o=some m:=by
 cases o with
 |none=>simp at h
 |some x=>simp at h;rw[h]
def bK{Z X:Int}{ls:List IC}{i:Nat}{m:Cw}(h:m∈J6 Z X ls i):∃l∈ls,goes Z X l/\l.t.toNat=i/\came Z l.bs=some m:=by
 obtain⟨l,W,Y⟩:=List.mem_flatMap.1 h
 by_cases c:goes Z X l/\l.t.toNat=i
 .rw[Ao c]at Y;exact⟨l,W,c.1,c.2,mem_toList Y⟩
 rw[Aj c]at Y;cases Y
def Yz{k f n:Int}{Z:List Int}{i:Nat}{m:Cw}(h:m∈Mv k f n Z i):came f (Wr.enc k f n Z)=some m:=by
 unfold Mv at h
 split at h
 . cases h
 split at h
 . exact mem_toList h
 cases h
end Cl
namespace Ms
open Go.ChangeShapes Go.WideShapes Go.ChangeAt Go.RowKit Mem Go.Proofs.YtjobajeggllmiaaGreat.Op Rws Nd
def EH(w:World)(base:Nat)(o:Option Cw)(v:Value):Prop:=
 match o with
 |some m=>∃a c,v=.slice (some a) m.zs.length c/\w.ownsRow base 3 1 v m.zs.length (AQ m.zs)
 |none=>v=.slice none 0 0
def EH.keep{w w':World}{base base':Nat}{o:Option Cw}{v:Value}(h:EH w base o v)(Y:∀n Z,w.ownsRow base 3 1 v n Z->w'.ownsRow base' 3 1 v n Z):EH w' base' o v:=by
 cases o with
 |none=>exact h
 |some m=>obtain⟨a,c,W,X⟩:=h;exact⟨a,c,W,Y _ _ X⟩
def EH.below{w w':World}{base:Nat}{o:Option Cw}{v:Value}(h:EH w base o v)(hb:Below w.heap.size w w'):EH w' base o v:=h.keep fun n Z h=>ownsRow_below h hb
def EH.one{w:World}{base:Nat}{o:Option Cw}{v:Value}(h:EH w base o v):v.oneCell'=true:=by
 cases o with
 |none=>rw[show v=.slice none 0 0 from h];rfl
 |some m=>obtain⟨a,c,rfl,Z⟩:=h;rfl
def PY(id Y Z:Int)(many:Nat)(X:Int){W:List Cw}{k:Nat}{m:Cw}(V:W[k]?=some m):Be id Y Z many X (W.take (k+1))=(Be id Y Z many X (W.take k)).or (if fit id Y Z many X m=true then some m else none):=by
 unfold Be
 rw[List.take_add_one,V,List.find?_append]
 by_cases h:fit id Y Z many X m=true
 . simp[h]
 simp[h]
def P7(w wr:World)(R:Array Value)(id X Z:Int)(many:Nat)(Y:List Cw)(k:Nat):Prop:=
 ∃s:Nat->Value,(∀i:Nat,i<4->EH wr (w.heap.size+1+1+1) (Be id X Z many (i:Int) (Y.take k)) (s i))/\Ae wr w.heap.size 37 R/\Ae wr (w.heap.size+1) 88 (row 4 fun _=>.slice none 0 0)/\Ae wr (w.heap.size+1+1) 88 (row 4 s)/\Below w.heap.size w wr
def Hq{w wr O:World}{R:Array Value}{id W Z:Int}{many:Nat}{X:List Cw}{k:Nat}{m:Cw}(h:P7 w wr R id W Z many X k)(N:X[k]?=some m)(hb:Below wr.heap.size wr O)(hf:∀i:Nat,i<4->fit id W Z many (i:Int) m=false\/∃x,Be id W Z many (i:Int) (X.take k)=some x):P7 w O R id W Z many X (k+1):=by
 obtain⟨s,M,U,V,T,L⟩:=h;refine⟨s,fun i hi=>?_,U.below hb U.lt,V.below hb V.lt,T.below hb T.lt,Bh L Nr hb⟩;rw[PY _ _ _ _ _ N];have Y:=(M i hi).below hb
 rcases hf i hi with e|⟨x,e⟩
 .rw[e]
  cases ho:Be id W Z many (i:Int) (X.take k)with
  |none=>rw[ho]at Y;exact Y
  |some x=>rw[ho]at Y;exact Y
 rw[e]at Y ⊢;exact Y
def bQ{w wr V:World}{R:Array Value}{id X Z:Int}{many:Nat}{Y:List Cw}{k:Nat}{m:Cw}(h:P7 w wr R id X Z many Y k)(M:Y[k]?=some m)(hb:Below wr.heap.size wr V){j:Nat}(hj:j<4)(hf:∀i:Nat,i<4->fit id X Z many (i:Int) m=decide (i=j))(hn:Be id X Z many (j:Int) (Y.take k)=none){a:Addr}{c:Nat}(ho:V.ownsRow (w.heap.size+1+1+1) 3 1 (.slice (some a) m.zs.length c) m.zs.length (AQ m.zs)):
  P7 w (V.setCell ⟨w.heap.size+1+1,j,none⟩ (.slice (some a) m.zs.length c)) R id X Z many Y (k+1):=by
 obtain⟨s,L,O,T,N,J⟩:=h;have U:=(N.below hb N.lt).set j (.slice (some a) m.zs.length c);rw[Di]at U
 refine⟨fun i=>if i=j then .slice (some a) m.zs.length c else s i,fun i hi=>?_,(O.below hb O.lt).other (by show w.heap.size≠w.heap.size+1+1;omega) _,(T.below hb T.lt).other (by show w.heap.size+1≠w.heap.size+1+1;omega) _,U,(Bh J Nr hb).setCell (by show w.heap.size<=w.heap.size+1+1;omega) _⟩
 rw[PY _ _ _ _ _ M,hf i hi];have W:∀ {v n xs},V.ownsRow (w.heap.size+1+1+1) 3 1 v n xs->(V.setCell ⟨w.heap.size+1+1,j,none⟩ (.slice (some a) m.zs.length c)).ownsRow (w.heap.size+1+1+1) 3 1 v n xs:=fun h=>Vt.Ch h Aa _
 by_cases e:i=j
 .subst e;rw[hn];simp only[decide_true,if_true,Option.none_or];exact⟨a,c,rfl,W ho⟩
 rw[decide_eq_false e]
 show EH _ _ _ (if i=j then _ else s i)
 rw[Aj e];have:=((L i hi).below hb).keep (base':=w.heap.size+1+1+1) fun n xs h=>W h
 simpa using this
def La(R:Array Value)(id L:Int)(h0:R[0]?=some (.int .i64 id))(h1:R[1]?=some (.int .i64 L))(A:Option Addr)(c:Nat)(ms:List Cw)(kind:Int)(many:Nat)(hmany:0<many)(B:Nat)(w:World)(hB:B<=w.heap.size)(hl:ms.length<=140737488355328)(hr:Cc w B A ms):
  Calls prog 39 #[.agg R,.slice A ms.length c,.int .i64 kind,.int .i64 (many:Int)] w fun e w'=>∃s:Nat->Value,e=.returned (.agg (row 4 s))/\(∀i:Nat,i<4->EH w' w.heap.size (Be id L kind many (i:Int) ms) (s i))/\Below w.heap.size w w':=by
 have HR:=zz hr;have H0:=zz h0;have H1:=zz h1;clear hr h0 h1
 go_in
 go_wp2_with fail
 go_loopw[14] (fun i wr=>∃(k:Nat),k<=ms.length/\i=.int .i64 k/\P7 w wr R id L kind many ms k) (fun i _=>ms.length-(intOf i).toNat)
 .refine⟨0,Aa,rfl,fun _=>.slice none 0 0,fun i hi=>rfl,((Ae.new rfl).alloc _).alloc _,(Ae.new Bq).alloc _,Ae.new Bq,?_⟩;exact((DC).alloc Bq _).alloc Ec _
 obtain⟨k,hk,rfl,hH⟩:=hrel
 by_cases qQ:k<ms.length
 .have hm:ms[k]?=some ms[k]:=List.getElem?_eq_getElem qQ
  generalize ms[k]=m at*
  have G:=zz hH;obtain⟨s,u,hn,X,Y,hb⟩:=hH;have F:=zz hm;obtain⟨b,o,a,ca,rfl,rG,x0,x1,x2,x3,h2,h3,h4,h5⟩:=(HR.o.below (hb.mono hB)).at hm;have rF:(0:Int)<=(k:Int):=Aa;have rE:(k:Int)<(ms.length:Int):=Aa;have qU:=hb.size;have V:=zz u;have l:=zz hn;have HE:=zz X;have O:=zz Y;have t:=zz Y;have HB:=zz hb;have H5:=zz h5;clear u hn X Y hb hm h5
  go_upto_region 5 with fail
  have M:=zz (show Ae (wr.alloc (.cells (BL m.k m.f m.n a m.zs.length ca) 65)) wr.heap.size 65 (BL m.k m.f m.n a m.zs.length ca)from Ae.fresh _ _ _)
  have Z:=zz ((Below.refl wr.heap.size wr).alloc Nr (.cells (BL m.k m.f m.n a m.zs.length ca) 65));have qZ:=O.o.lt;have l:=zz (l.o.below Z.o l.o.lt);have O:=zz (O.o.below Z.o O.o.lt);have y0:=M.o.cell 0;have y1:=M.o.cell 1;have y2:=M.o.cell 2;have y3:=M.o.cell 3;have z0:=(l.o.cell 0).trans H0.o;have z1:=(l.o.cell 1).trans H1.o;simp only[List.getElem?_toArray,List.getElem?_cons_zero,List.getElem?_cons_succ]at y0 y1 y2 y3
  have W:=zz (fun(i:Nat)=>show fit id L kind many (i:Int) m=(m.f==(i:Int)&&m.f !=id&&m.k==kind&&m.n==L&&(m.zs.length:Int)==(many:Int))from rfl)
  clear x0 x1 x2 x3
  generalize(wr.alloc (.cells (BL m.k m.f m.n a m.zs.length ca) 65))=w2 at*
  obtain⟨g,hg⟩:=AJ (wr.heap.size);rw[hg]at M y0 y1 y2 y3 qZ ⊢;have rq:=zz hg;clear hg
  cases e1:(m.k !=kind)with
  |true=>
   have T:=zz (Hq G.o F.o Z.o (fun i hi=>.inl (by rw[W.o,show(m.k==kind)=false by simpa[bne] using e1];simp)))
   clear W;go_wp2_with fail;exact⟨⟨k+1,Aa,BG,T.o⟩,Ck⟩
  |false=>
   cases e2:(m.n !=L)with
   |true=>
    have T:=zz (Hq G.o F.o Z.o (fun i hi=>.inl (by rw[W.o,show(m.n==L)=false by simpa[bne] using e2];simp)))
    clear W;go_wp2_with fail;exact⟨⟨k+1,Aa,BG,T.o⟩,Ck⟩
   |false=>
    cases e3:((m.zs.length:Int)!=(many:Int))with
    |true=>
     have T:=zz (Hq G.o F.o Z.o (fun i hi=>.inl (by rw[W.o,show((m.zs.length:Int)==(many:Int))=false by simpa[bne] using e3];simp)))
     clear W;go_wp2_with fail;exact⟨⟨k+1,Aa,BG,T.o⟩,Ck⟩
    |false=>
     by_cases e4:m.f<0
     .have T:=zz (Hq G.o F.o Z.o (fun i hi=>.inl (by rw[W.o,show(m.f==(i:Int))=false from beq_eq_false_iff_ne.2 Aa];simp)))
      clear W;go_wp2_with fail;exact⟨⟨k+1,Aa,BG,T.o⟩,Ck⟩
     by_cases e5:4<=m.f
     .have T:=zz (Hq G.o F.o Z.o (fun i hi=>.inl (by rw[W.o,show(m.f==(i:Int))=false from beq_eq_false_iff_ne.2 Aa];simp)))
      clear W;go_wp2_with fail;exact⟨⟨k+1,Aa,BG,T.o⟩,Ck⟩
     have qX:0<=m.f:=Aa;have qV:m.f<4:=Aa
     cases e6:(m.f==id)with
     |true=>
      have T:=zz (Hq G.o F.o Z.o (fun i hi=>.inl (by rw[W.o,show(m.f !=id)=false by simp only[bne,e6];rfl];simp)))
      clear W;go_wp2_with fail;exact⟨⟨k+1,Aa,BG,T.o⟩,Ck⟩
     |false=>
      obtain⟨j,hj⟩:∃j:Nat,m.f=(j:Int):=⟨m.f.toNat,Aa⟩;have H:j<4:=Aa;have rM:(0:Int)<=(j:Int):=Aa;have rJ:(j:Int)<4:=Aa
      have x7: w2.cell? ⟨w.heap.size+1+1,j,none⟩=some (s j):=by rw[O.o.cell,Ah H]
      have f7:=O.o.thaw j;have U:=V.o j H;rw[hj]at y1 e6;clear e4 e5 qX qV
      cases e7:Be id L kind many (j:Int) (ms.take k)with
      |some x=>
       rw[e7]at U;obtain⟨ax,cx,qR,-⟩:=U;rw[qR]at x7
       have T:=zz (Hq G.o F.o Z.o (fun i hi=>by
        by_cases J:i=j
        . subst J;exact .inr ⟨_,e7⟩
        exact .inl (by rw[W.o,hj,show((j:Int)==(i:Int))=false from beq_eq_false_iff_ne.2 Aa];simp)))
       clear W;go_wp2_with fail;exact⟨⟨k+1,Aa,BG,T.o⟩,Ck⟩
      |none=>
       rw[e7]at U
       rw[show s j=.slice none 0 0 from U]at x7
       go_upto_region 6 with fail
       have qY:=zz (show s j=.slice none 0 0 from U)
       have qW:Hid (∀i:Nat,i<4->fit id L kind many (i:Int) m=decide (i=j)):=zz fun i hi=>by
        have b1:(m.k==kind)=true:=by simpa[bne] using e1
        have b2:(m.n==L)=true:=by simpa[bne] using e2
        have b3:((m.zs.length:Int)==(many:Int))=true:=by simpa[bne] using e3
        have b6:((j:Int)!=id)=true:=by simp only[bne,e6];rfl
        rw[W.o,hj,b1,b2,b3,b6,Bool.and_true,Bool.and_true,Bool.and_true,Bool.and_true]
        by_cases J:i=j
        . subst J;simp
        rw[decide_eq_false J];exact beq_eq_false_iff_ne.2 Aa
       have rH:0<m.zs.length:=by
        have b3:((m.zs.length:Int)==(many:Int))=true:=by simpa[bne] using e3
        have:=eq_of_beq b3;omega
       have H5:=zz ((H5.o.below (Z.o.mono (Nat.le_trans hB qU))).drew);have M:=zz M.o.drew;have Z:=zz Z.o.drew;have rP:=rq.o;rw[hj]at M;clear y0 y1 y2 y3 z0 z1 x7 f7 W U e1 e2 e3 e6;have V:=M.o;refine wp_region_noPanic ?_;refine A8 [1,4] (fun w'=>Ae w' g 65 (BL m.k (j:Int) m.n a m.zs.length ca)) Ap ?_
       generalize w2.drew=p at*
       refine Ac 0 ?_;refine Ba 1 ?_ V (hy:=?_) (h:=?_);rotate_left 1
       . (intro w' C;have y:=C.cell 1;simp only[List.getElem?_toArray,List.getElem?_cons_zero,List.getElem?_cons_succ]at y;go_simp;(try with_reducible rfl))
       refine Ac 3 ?_;refine Ba 4 ?_ V (hy:=?_) (h:=?_);rotate_left 1
       . (intro w' C;have y:=C.cell 3;simp only[List.getElem?_toArray,List.getElem?_cons_zero,List.getElem?_cons_succ]at y;go_simp;(try with_reducible rfl))
       refine Aw 2 ?_;refine Bt ?_;intro K hK;go_simp;have HZ:Hid ((p.alloc (.cells #[] 3)).ownsRow (w.heap.size+1+1+1) 3 1 (.slice (some ⟨p.heap.size,0,none⟩) 0 0) 0 []):=zz ⟨rfl,.inr ⟨p.heap.size,0,#[],rfl,by have:=Z.o.size;omega,Ae.fresh _ _ _,Nat.le_refl _,GX,rfl,rfl⟩⟩;have rC:=Z.o.size;have rD:=M.o.lt;have M:=zz (M.o.alloc (.cells #[] 3));have Z:=zz (Z.o.alloc Z.o.size (.cells #[] 3));have H5:=zz (H5.o.alloc Aa (.cells #[] 3));have rO:=Z.o.size;clear V
       generalize(p.alloc (.cells #[] 3))=V1 at*
       generalize p.heap.size=nb at*
       have V:=M.o;refine hK.o _ _ V ?_;refine Aw 5 ?_;refine Bt ?_;intro K hK;rw[Ao Bb];refine Ea _ (.tmp 62) (.tmp 64) 63 rfl (base:=w.heap.size+1+1+1) C8 rfl HZ.o rfl (fun h=>⟨by have:=h2 h;omega,h2 h⟩) H5.o (LH m.zs) GX Aa Aa ?_;intro A' c' V2 v N E
       (try simp only[List.nil_append,Nat.zero_add]at N v)
       obtain⟨a',rfl⟩:∃a',A'=some a':=by { cases A' with|none=>exact absurd (v rfl).1 Aa|some a'=>exact⟨a',rfl⟩ }
       have Z:=zz (Z.o.grown E Z.o.size (fun q e=>by have e:some nb=some q:=e;injection e with e;omega));have M:=zz (M.o.grown E (fun e=>by have e:some g=some nb:=e;injection e with e;omega));clear V;have V:=M.o;have rA:=zz N
       (try simp only[Nat.zero_add])
       clear N E v;have O:=zz (t.o.below Z.o t.o.lt)
       have x7: V2.cell? ⟨w.heap.size+1+1,j,none⟩=some (.slice none 0 0):=by rw[O.o.cell,Ah H];exact congrArg some qY.o
       have f7:=O.o.thaw j;refine hK.o _ _ V ?_;refine Ac 6 ?_;refine Aw 7 ?_;refine AX ?_ ?_
       . kernel_rfl
       intro K hK;go_simp;refine hK.o _ _ ?_;(try simp only[Rg.lp]);refine Bg Ap ?_ _;refine NoPanic.normal ?_;clear V;go_wp2_with fail;exact⟨⟨k+1,Aa,BG,bQ G.o F.o Z.o H qW.o e7 rA.o⟩,Ck⟩
 obtain rfl:k=ms.length:=Aa;clear qQ;obtain⟨s,u,hn,X,Y,hb⟩:=hH;rw[List.take_length]at u;have V:=zz u;have HE:=zz X;have O:=zz Y;have HB:=zz hb;have I:(prog.info? 88).map (·.size)=some (row 4 s).size:=Eg
 have D:(row 4 fun _:Nat=>Value.slice none 0 0).size=(row 4 s).size:=by rw[Ag,Ag]
 have r:(row 4 s).all (·.oneCell')=true:=row_one fun i hi=>(u i hi).one;clear u hn X Y hb;obtain⟨R4,z⟩:=AJ (row 4 s);obtain⟨Z4,d⟩:=AJ (row 4 fun _:Nat=>Value.slice none 0 0);rw[z]at O I D r;rw[d]at HE D;have ru:=zz z;clear z d
 go_wp2_with(first
  |(refine Ad rfl 88 _ rfl (w.heap.size+1+1) rfl O.o _ underlying88 rfl I ?_)
  |(refine wpList_store_row rfl 88 _ _ rfl (w.heap.size+1) R4 rfl rfl 88 _ HE.o I D r ?_))
 exact Fs rfl rfl (HE.o.setRow R4) underlying88 rfl I rfl ⟨s,by rw[ru.o],fun i hi=>(V.o i hi).keep fun n xs h=>Bf (Ay h (show w.heap.size+1<w.heap.size+1+1+1 by omega) R4) Aa,below_setRow HB.o Aa R4⟩
end Ms
end Go.Proofs.YtjobajeggllmiaaGreat
