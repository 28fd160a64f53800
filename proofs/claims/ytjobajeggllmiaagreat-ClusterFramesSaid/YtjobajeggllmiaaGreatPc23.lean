import Derived.Test.YtjobajeggllmiaaGreatPc0
import Derived.Test.YtjobajeggllmiaaGreatPc22
set_option linter.all false
set_option maxHeartbeats 100000000
set_option maxRecDepth 100000
namespace Go.Proofs.YtjobajeggllmiaaGreat
open Rg _root_.Go.Proofs.Tryz
namespace BigW
open Go.RowKit Mem BigLaw
def Ai{w:World}{g:Nat}{X V W Y Z:Int}{b:Bool}{m:Int}(h:ED w g ⟨X,V,W,Y,Z,b,m⟩):
  w.cell? ⟨g,0,none⟩=some (.int .i64 X)/\ w.cell? ⟨g,1,none⟩=some (.int .i64 V)/\ w.cell? ⟨g,2,none⟩=some (.int .i64 W)/\ w.cell? ⟨g,3,none⟩=some (.int .i64 Y)/\ w.cell? ⟨g,4,none⟩=some (.int .i64 Z)/\ w.cell? ⟨g,5,none⟩=some (.bool b)/\ w.cell? ⟨g,6,none⟩=some (.int .i64 m):=
 ⟨(Ae.cell h 0).trans rfl,(Ae.cell h 1).trans rfl,(Ae.cell h 2).trans rfl,(Ae.cell h 3).trans rfl,(Ae.cell h 4).trans rfl,(Ae.cell h 5).trans rfl,(Ae.cell h 6).trans rfl⟩
def Cs{w:World}{g:Nat}{s:St}(h:ED w g s):
  w.frozen? ⟨g,0,none⟩=false/\ w.frozen? ⟨g,1,none⟩=false/\ w.frozen? ⟨g,2,none⟩=false/\ w.frozen? ⟨g,3,none⟩=false/\ w.frozen? ⟨g,4,none⟩=false/\ w.frozen? ⟨g,5,none⟩=false/\ w.frozen? ⟨g,6,none⟩=false:=
 ⟨Ae.thaw h 0,Ae.thaw h 1,Ae.thaw h 2,Ae.thaw h 3,Ae.thaw h 4,Ae.thaw h 5,Ae.thaw h 6⟩
def one_cell{w:World}{g:Nat}{t:TypeId}{v:Value}(h:Ae w g t #[v]): w.cell? ⟨g,0,none⟩=some v:=(Ae.cell h 0).trans rfl
def Ie(s:St)(Z q:Int):St:=
 let t:=Io s.P01 Z
 let u:=Io s.P11 Z
 let m:=Io s.V Z
 let x:=Ol s.X m.1
 let a:=Ol s.P00 t.1
 let b:=Ol a.1 t.1
 let c:=Io u.1 Z
 let d:=Ol b.1 c.1
 let e:=Ol s.P01 u.1
 let f:=Ol s.P11 q
 { X:=x.1,V:=s.V,P00:=d.1,P01:=e.1,P11:=f.1,bent:=s.bent||t.2||u.2||m.2||x.2||a.2||b.2||c.2||d.2||e.2||f.2,missed:=s.missed }
def update(s:St)(z r W:Int):St×Bool:=
 let y:=WS z s.X
 let w:=Ol s.P00 r
 let L:=Io y.1 y.1
 let R:=Io W w.1
 if w.1<=0\/R.1<L.1 then({ s with missed:=IntKind.i64.wrap (s.missed+1) },false)
 else
  let k:=fdiv s.P00 w.1
  let l:=fdiv s.P01 w.1
  let M:=Io k.1 y.1
  let x:=Ol s.X M.1
  let J:=Io l.1 y.1
  let v:=Ol s.V J.1
  let N:=Io k.1 s.P00
  let U:=WS s.P00 N.1
  let T:=Io k.1 s.P01
  let Y:=WS s.P01 T.1
  let O:=Io l.1 s.P01
  let Z:=WS s.P11 O.1
  ({ X:=x.1,V:=v.1,P00:=U.1,P01:=Y.1,P11:=Z.1,bent:=s.bent||y.2||w.2||L.2||R.2||k.2||l.2||M.2||x.2||J.2||v.2||N.2||U.2||T.2||Y.2||O.2||Z.2,missed:=0 },true)
def Mi(s:St):Prop:=In64 s.X/\In64 s.V/\In64 s.P00/\In64 s.P01/\In64 s.P11
def SI(s:St):Value:=.agg (ME s)
def fD(w w':World)(s:St)(e:Ending):Prop:=e=.returned (SI s)/\Below w.heap.size w w'
def Ps(w w':World)(r:St×Bool)(e:Ending):Prop:=e=.returned (.tuple #[SI r.1,.bool r.2])/\Below w.heap.size w w'
def MJ{s:St}(h:Mi s)(Z q:Int):Mi (Ie s Z q):=⟨BZ _ _,h.2.1,BZ _ _,BZ _ _,BZ _ _⟩
def dA{s:St}(h:Mi s)(z r Z:Int):Mi (update s z r Z).1:=by
 unfold update
 dsimp only
 split
 . exact h
 exact⟨BZ _ _,BZ _ _,Eh _ _,Eh _ _,Eh _ _⟩
def Iu{f:Int->Int->Int×Bool}(Z:∀a b,In64 (f a b).1)(a b:Int):∃y Y,RowKit.Hid (f a b=(y,Y))/\In64 y:=⟨_,_,zz rfl,Z a b⟩
def Hg{w w':World}{g g':Nat}{t:TypeId}{cs:Array Value}(h:RowKit.Hid (Ae w g t cs))(Y:w.grownBy w' (some g'))(Z:g≠g'):RowKit.Hid (Ae w' g t cs):=zz (h.o.grown Y (oW Z))
def Hb{w Z w':World}{B g:Nat}(h:RowKit.Hid (Below B w Z))(Y:Z.grownBy w' (some g))(X:B<=w.heap.size)(W:B<=g):RowKit.Hid (Below B w w'):=zz (below_grown h.o X Y (fun x e=>by injection e with e;omega))
end BigW
namespace BigW
open Go.RowKit Mem BigLaw Rws
def Vm(s:St)(i q:Int)(w:World)(hs:Mi s)(l:In64 i)(rE:In64 q):
  Calls prog 71 #[SI s,.int .i64 i,.int .i64 q] w fun e w'=>fD w w' (Ie s i q) e:=by
 obtain⟨X,V,y,z,A,G,U⟩:=s;obtain⟨qV,qZ,qQ,v,n⟩:=hs
 simp only at qV qZ qQ v n
 unfold SI ME
 obtain⟨I,r⟩:=AJ (((w.alloc (.cells (AZ X V y z A G U) 25)).alloc (.cells VD 25)).alloc (.cells #[.pointer (some ⟨w.heap.size,0,none⟩)] 151))
 have D:=zz (show Below w.heap.size w I from by rw[←r];exact((DC).alloc Bq _).alloc Ec _)
 have Z:=zz (show ED I w.heap.size ⟨X,V,y,z,A,G,U⟩from by rw[←r];exact((Ae.new rfl).alloc _).alloc _)
 have T:=zz (show Ae I (w.heap.size+1+1) 151 #[.pointer (some ⟨w.heap.size,0,none⟩)]from by rw[←r];exact Ae.new Bq)
 have H:=zz (show Ae I (w.heap.size+1) 25 VD from by rw[←r];exact(Ae.new Bq).alloc _)
 have hsz:w.heap.size+3<=I.heap.size:=by rw[←r];simp
 have qW:=zz r;clear r;obtain⟨t,tb,T_,qY⟩:=Iu Ce z i;obtain⟨u,ub,U_,qR⟩:=Iu Ce A i;obtain⟨m,mb,M_,rD⟩:=Iu Ce V i;obtain⟨x,xb,X_,rM⟩:=Iu BZ X m;obtain⟨a,ab,A_,rF⟩:=Iu BZ y t;obtain⟨b,bb,B_,ru⟩:=Iu BZ a t;obtain⟨c,cb,C_,rA⟩:=Iu Ce u i;obtain⟨d,db,D_,rJ⟩:=Iu BZ b c;obtain⟨k,j,qX,rG⟩:=Iu BZ z u;obtain⟨g,f,qU,rH⟩:=Iu BZ A q
 go_in
 go_upto_region 2 with fail
 rw[qW.o];clear qW;obtain⟨gh,rq⟩:=AJ (w.heap.size+1+1);rw[rq]at T ⊢;obtain⟨gr,rC⟩:=AJ (w.heap.size+1);rw[rC]at H ⊢
 (try clear M O N J L E F)
 (try clear R)
 obtain⟨M,O,N,J,L,E,F⟩:=Ai Z.o;have R:=one_cell T.o;go_wp2_with fail;refine(EM w.heap.size _ z i _ Z.o v l).mono ?_;intro e I C;rw[T_.o]at C;obtain⟨rfl,Y,W⟩:=C;dsimp only at Y;have Z:=zz Y;have H:=Hg H W Aa;have T:=Hg T W Aa;have D:=Hb D W Nr Aa;replace hsz:=Nat.le_trans hsz W.size;clear Y W
 (try clear M O N J L E F)
 (try clear R)
 obtain⟨M,O,N,J,L,E,F⟩:=Ai Z.o;have R:=one_cell T.o;go_wp2_with fail;refine(EM w.heap.size _ A i _ Z.o n l).mono ?_;intro e I C;rw[U_.o]at C;obtain⟨rfl,Y,W⟩:=C;dsimp only at Y;have Z:=zz Y;have H:=Hg H W Aa;have T:=Hg T W Aa;have D:=Hb D W Nr Aa;replace hsz:=Nat.le_trans hsz W.size;clear Y W
 (try clear M O N J L E F)
 (try clear R)
 obtain⟨M,O,N,J,L,E,F⟩:=Ai Z.o;have R:=one_cell T.o
 go_upto_region 4 with fail
 have Z:=zz (Ae.drew Z.o);have H:=zz (H.o.drew);have T:=zz (T.o.drew);have D:=zz D.o.drew;have hsz:w.heap.size+3<=I.drew.heap.size:=hsz
 (try clear M O N J L E F)
 (try clear R)
 obtain⟨M,O,N,J,L,E,F⟩:=Ai Z.o;have R:=one_cell T.o;have B:=And.intro M (And.intro O (And.intro N (And.intro J (And.intro L R))));refine wp_region_noPanic ?_;refine A8 [0,2,3,5] (fun w'=> w'.cell? ⟨w.heap.size,0,none⟩=some (.int .i64 X)/\ w'.cell? ⟨w.heap.size,1,none⟩=some (.int .i64 V)/\ w'.cell? ⟨w.heap.size,2,none⟩=some (.int .i64 y)/\ w'.cell? ⟨w.heap.size,3,none⟩=some (.int .i64 z)/\ w'.cell? ⟨w.heap.size,4,none⟩=some (.int .i64 A)/\ w'.cell? ⟨gh,0,none⟩=some (.pointer (some ⟨w.heap.size,0,none⟩))) Ap ?_
 generalize I.drew=I at*
 refine Bc 0 B ?_;refine Ac 1 ?_;refine Bc 2 B ?_;refine Bc 3 B ?_;refine Ac 4 ?_;refine Bc 5 B ?_;refine Ac 6 ?_;refine Aw 7 ?_;refine Bt ?_;intro K hK;rw[Ao Bb];go_simp
 go_at_call 105
 refine(EM w.heap.size _ V i _ Z.o qZ l).mono ?_;intro e I C;rw[M_.o]at C;obtain⟨rfl,Y,W⟩:=C;dsimp only at Y;have Z:=zz Y;have H:=Hg H W Aa;have T:=Hg T W Aa;have D:=Hb D W Nr Aa;replace hsz:=Nat.le_trans hsz W.size;clear Y W
 (try clear M O N J L E F)
 (try clear R)
 obtain⟨M,O,N,J,L,E,F⟩:=Ai Z.o;have R:=one_cell T.o;clear B;have B:=And.intro M (And.intro O (And.intro N (And.intro J (And.intro L R))));go_wp2_with fail;refine hK.o _ _ B ?_;refine Aw 8 ?_;refine AX ?_ ?_
 . kernel_rfl
 intro K hK;rw[Ao Bb];go_simp
 go_at_call 104
 refine(GA w.heap.size _ X m _ Z.o qV rD).mono ?_;intro e I C;rw[X_.o]at C;obtain⟨rfl,Y,W⟩:=C;dsimp only at Y;have Z:=zz Y;have H:=Hg H W Aa;have T:=Hg T W Aa;have D:=Hb D W Nr Aa;replace hsz:=Nat.le_trans hsz W.size;clear Y W
 (try clear M O N J L E F)
 (try clear R)
 obtain⟨M,O,N,J,L,E,F⟩:=Ai Z.o;have R:=one_cell T.o;clear B;have B:=And.intro M (And.intro O (And.intro N (And.intro J (And.intro L R))));obtain⟨f0,f1,f2,f3,f4,f5,f6⟩:=Cs Z.o;go_wp2_with fail;refine hK.o _ _ ?_;refine Ac 9 ?_;refine Aw 10 ?_;refine AX ?_ ?_
 . kernel_rfl
 intro K hK;go_simp;refine hK.o _ _ ?_;(try simp only[Rg.lp]);refine Bg Ap ?_ _;refine NoPanic.normal ?_;clear B f0 f1 f2 f3 f4 f5 f6
 have HP:=zz (show ED (I.setCell ⟨w.heap.size,0,none⟩ (.int .i64 x)) w.heap.size ⟨x,V,y,z,A,((((G||tb)||ub)||mb)||xb),U⟩from Ae.set Z.o 0 (.int .i64 x))
 have H:=zz (H.o.other (p:=⟨w.heap.size,0,none⟩) (by show _≠w.heap.size;omega) (.int .i64 x))
 have T:=zz (T.o.other (p:=⟨w.heap.size,0,none⟩) (by show _≠w.heap.size;omega) (.int .i64 x))
 have D:=zz (D.o.setCell (p:=⟨w.heap.size,0,none⟩) (by show _<=w.heap.size;omega) (.int .i64 x))
 replace hsz:w.heap.size+3<=(I.setCell ⟨w.heap.size,0,none⟩ (.int .i64 x)).heap.size:=by simpa using hsz
 have Z:=HP;clear HP
 generalize(I.setCell ⟨w.heap.size,0,none⟩ (.int .i64 x))=I at*
 (try clear M O N J L E F)
 (try clear R)
 obtain⟨M,O,N,J,L,E,F⟩:=Ai Z.o;have R:=one_cell T.o
 go_upto_region 5 with fail
 have Z:=zz (Ae.drew Z.o);have H:=zz (H.o.drew);have T:=zz (T.o.drew);have D:=zz D.o.drew;have hsz:w.heap.size+3<=I.drew.heap.size:=hsz
 (try clear M O N J L E F)
 (try clear R)
 obtain⟨M,O,N,J,L,E,F⟩:=Ai Z.o;have R:=one_cell T.o;have B:=And.intro M (And.intro O (And.intro N (And.intro J (And.intro L R))));refine wp_region_noPanic ?_;refine A8 [0,1,2,4,9] (fun w'=> w'.cell? ⟨w.heap.size,0,none⟩=some (.int .i64 x)/\ w'.cell? ⟨w.heap.size,1,none⟩=some (.int .i64 V)/\ w'.cell? ⟨w.heap.size,2,none⟩=some (.int .i64 y)/\ w'.cell? ⟨w.heap.size,3,none⟩=some (.int .i64 z)/\ w'.cell? ⟨w.heap.size,4,none⟩=some (.int .i64 A)/\ w'.cell? ⟨gh,0,none⟩=some (.pointer (some ⟨w.heap.size,0,none⟩))) Ap ?_
 generalize I.drew=I at*
 refine Bc 0 B ?_;refine Bc 1 B ?_;refine Bc 2 B ?_;refine Ac 3 ?_;refine Bc 4 B ?_;refine Ac 5 ?_;refine Ac 7 ?_;refine Bc 9 B ?_;refine Ac 10 ?_;refine Ac 11 ?_;refine Aw 6 ?_;refine Bt ?_;intro K hK;rw[Ao Bb];go_simp
 go_at_call 104
 refine(GA w.heap.size _ y t _ Z.o qQ qY).mono ?_;intro e I C;rw[A_.o]at C;obtain⟨rfl,Y,W⟩:=C;dsimp only at Y;have Z:=zz Y;have H:=Hg H W Aa;have T:=Hg T W Aa;have D:=Hb D W Nr Aa;replace hsz:=Nat.le_trans hsz W.size;clear Y W
 (try clear M O N J L E F)
 (try clear R)
 obtain⟨M,O,N,J,L,E,F⟩:=Ai Z.o;have R:=one_cell T.o;clear B;have B:=And.intro M (And.intro O (And.intro N (And.intro J (And.intro L R))));go_wp2_with fail;refine hK.o _ _ B ?_;refine Aw 8 ?_;refine Bt ?_;intro K hK;rw[Ao Bb];go_simp
 go_at_call 104
 refine(GA w.heap.size _ a t _ Z.o rF qY).mono ?_;intro e I C;rw[B_.o]at C;obtain⟨rfl,Y,W⟩:=C;dsimp only at Y;have Z:=zz Y;have H:=Hg H W Aa;have T:=Hg T W Aa;have D:=Hb D W Nr Aa;replace hsz:=Nat.le_trans hsz W.size;clear Y W
 (try clear M O N J L E F)
 (try clear R)
 obtain⟨M,O,N,J,L,E,F⟩:=Ai Z.o;have R:=one_cell T.o;clear B;have B:=And.intro M (And.intro O (And.intro N (And.intro J (And.intro L R))));go_wp2_with fail;refine hK.o _ _ B ?_;refine Aw 12 ?_;refine Bt ?_;intro K hK;rw[Ao Bb];go_simp
 go_at_call 105
 refine(EM w.heap.size _ u i _ Z.o qR l).mono ?_;intro e I C;rw[C_.o]at C;obtain⟨rfl,Y,W⟩:=C;dsimp only at Y;have Z:=zz Y;have H:=Hg H W Aa;have T:=Hg T W Aa;have D:=Hb D W Nr Aa;replace hsz:=Nat.le_trans hsz W.size;clear Y W
 (try clear M O N J L E F)
 (try clear R)
 obtain⟨M,O,N,J,L,E,F⟩:=Ai Z.o;have R:=one_cell T.o;clear B;have B:=And.intro M (And.intro O (And.intro N (And.intro J (And.intro L R))));go_wp2_with fail;refine hK.o _ _ B ?_;refine Aw 13 ?_;refine AX ?_ ?_
 . kernel_rfl
 intro K hK;rw[Ao Bb];go_simp
 go_at_call 104
 refine(GA w.heap.size _ b c _ Z.o ru rA).mono ?_;intro e I C;rw[D_.o]at C;obtain⟨rfl,Y,W⟩:=C;dsimp only at Y;have Z:=zz Y;have H:=Hg H W Aa;have T:=Hg T W Aa;have D:=Hb D W Nr Aa;replace hsz:=Nat.le_trans hsz W.size;clear Y W
 (try clear M O N J L E F)
 (try clear R)
 obtain⟨M,O,N,J,L,E,F⟩:=Ai Z.o;have R:=one_cell T.o;clear B;have B:=And.intro M (And.intro O (And.intro N (And.intro J (And.intro L R))));obtain⟨f0,f1,f2,f3,f4,f5,f6⟩:=Cs Z.o;go_wp2_with fail;refine hK.o _ _ ?_;refine Ac 14 ?_;refine Aw 15 ?_;refine AX ?_ ?_
 . kernel_rfl
 intro K hK;go_simp;refine hK.o _ _ ?_;(try simp only[Rg.lp]);refine Bg Ap ?_ _;refine NoPanic.normal ?_;clear B f0 f1 f2 f3 f4 f5 f6
 have HP:=zz (show ED (I.setCell ⟨w.heap.size,2,none⟩ (.int .i64 d)) w.heap.size ⟨x,V,d,z,A,((((((((G||tb)||ub)||mb)||xb)||ab)||bb)||cb)||db),U⟩from Ae.set Z.o 2 (.int .i64 d))
 have H:=zz (H.o.other (p:=⟨w.heap.size,2,none⟩) (by show _≠w.heap.size;omega) (.int .i64 d))
 have T:=zz (T.o.other (p:=⟨w.heap.size,2,none⟩) (by show _≠w.heap.size;omega) (.int .i64 d))
 have D:=zz (D.o.setCell (p:=⟨w.heap.size,2,none⟩) (by show _<=w.heap.size;omega) (.int .i64 d))
 replace hsz:w.heap.size+3<=(I.setCell ⟨w.heap.size,2,none⟩ (.int .i64 d)).heap.size:=by simpa using hsz
 have Z:=HP;clear HP
 generalize(I.setCell ⟨w.heap.size,2,none⟩ (.int .i64 d))=I at*
 (try clear M O N J L E F)
 (try clear R)
 obtain⟨M,O,N,J,L,E,F⟩:=Ai Z.o;have R:=one_cell T.o
 go_upto_region 6 with fail
 go_wp2_with fail;refine(GA w.heap.size _ z u _ Z.o v qR).mono ?_;intro e I C;rw[qX.o]at C;obtain⟨rfl,Y,W⟩:=C;dsimp only at Y;have Z:=zz Y;have H:=Hg H W Aa;have T:=Hg T W Aa;have D:=Hb D W Nr Aa;replace hsz:=Nat.le_trans hsz W.size;clear Y W
 (try clear M O N J L E F)
 (try clear R)
 obtain⟨M,O,N,J,L,E,F⟩:=Ai Z.o;have R:=one_cell T.o;obtain⟨f0,f1,f2,f3,f4,f5,f6⟩:=Cs Z.o
 go_upto_region 7 with fail
 clear f0 f1 f2 f3 f4 f5 f6
 have HP:=zz (show ED (I.setCell ⟨w.heap.size,3,none⟩ (.int .i64 k)) w.heap.size ⟨x,V,d,k,A,(((((((((G||tb)||ub)||mb)||xb)||ab)||bb)||cb)||db)||j),U⟩from Ae.set Z.o 3 (.int .i64 k))
 have H:=zz (H.o.other (p:=⟨w.heap.size,3,none⟩) (by show _≠w.heap.size;omega) (.int .i64 k))
 have T:=zz (T.o.other (p:=⟨w.heap.size,3,none⟩) (by show _≠w.heap.size;omega) (.int .i64 k))
 have D:=zz (D.o.setCell (p:=⟨w.heap.size,3,none⟩) (by show _<=w.heap.size;omega) (.int .i64 k))
 replace hsz:w.heap.size+3<=(I.setCell ⟨w.heap.size,3,none⟩ (.int .i64 k)).heap.size:=by simpa using hsz
 have Z:=HP;clear HP
 generalize(I.setCell ⟨w.heap.size,3,none⟩ (.int .i64 k))=I at*
 (try clear M O N J L E F)
 (try clear R)
 obtain⟨M,O,N,J,L,E,F⟩:=Ai Z.o;have R:=one_cell T.o;go_wp2_with fail;refine(GA w.heap.size _ A q _ Z.o n rE).mono ?_;intro e I C;rw[qU.o]at C;obtain⟨rfl,Y,W⟩:=C;dsimp only at Y;have Z:=zz Y;have H:=Hg H W Aa;have T:=Hg T W Aa;have D:=Hb D W Nr Aa;replace hsz:=Nat.le_trans hsz W.size;clear Y W
 (try clear M O N J L E F)
 (try clear R)
 obtain⟨M,O,N,J,L,E,F⟩:=Ai Z.o;have R:=one_cell T.o;obtain⟨f0,f1,f2,f3,f4,f5,f6⟩:=Cs Z.o
 go_upto_region 8 with fail
 clear f0 f1 f2 f3 f4 f5 f6
 have HP:=zz (show ED (I.setCell ⟨w.heap.size,4,none⟩ (.int .i64 g)) w.heap.size ⟨x,V,d,k,g,((((((((((G||tb)||ub)||mb)||xb)||ab)||bb)||cb)||db)||j)||f),U⟩from Ae.set Z.o 4 (.int .i64 g))
 have H:=zz (H.o.other (p:=⟨w.heap.size,4,none⟩) (by show _≠w.heap.size;omega) (.int .i64 g))
 have T:=zz (T.o.other (p:=⟨w.heap.size,4,none⟩) (by show _≠w.heap.size;omega) (.int .i64 g))
 have D:=zz (D.o.setCell (p:=⟨w.heap.size,4,none⟩) (by show _<=w.heap.size;omega) (.int .i64 g))
 replace hsz:w.heap.size+3<=(I.setCell ⟨w.heap.size,4,none⟩ (.int .i64 g)).heap.size:=by simpa using hsz
 have Z:=HP;clear HP
 generalize(I.setCell ⟨w.heap.size,4,none⟩ (.int .i64 g))=I at*
 (try clear M O N J L E F)
 (try clear R)
 obtain⟨M,O,N,J,L,E,F⟩:=Ai Z.o;have R:=one_cell T.o
 have HG:=zz (show Ae I w.heap.size 25 #[.int .i64 x,.int .i64 V,.int .i64 d,.int .i64 k,.int .i64 g,.bool ((((((((((G||tb)||ub)||mb)||xb)||ab)||bb)||cb)||db)||j)||f),.int .i64 U]from Z.o)
 have HF:=zz (show Ie ⟨X,V,y,z,A,G,U⟩ i q=⟨x,V,d,k,g,((((((((((G||tb)||ub)||mb)||xb)||ab)||bb)||cb)||db)||j)||f),U⟩by simp only[Ie,T_.o,U_.o,M_.o,X_.o,A_.o,B_.o,C_.o,D_.o,qX.o,qU.o])
 clear M O N J L E F R
 go_wp2_with(first|(refine Ad rfl 25 _ rfl w.heap.size rfl HG.o _ underlying25 rfl Ap ?_)|(refine wpList_store_row rfl 25 _ _ rfl gr #[.int .i64 x,.int .i64 V,.int .i64 d,.int .i64 k,.int .i64 g,.bool ((((((((((G||tb)||ub)||mb)||xb)||ab)||bb)||cb)||db)||j)||f),.int .i64 U] rfl rfl 25 _ H.o Ap rfl GR ?_))
 refine Fs rfl rfl (H.o.setRow #[.int .i64 x,.int .i64 V,.int .i64 d,.int .i64 k,.int .i64 g,.bool ((((((((((G||tb)||ub)||mb)||xb)||ab)||bb)||cb)||db)||j)||f),.int .i64 U]) underlying25 rfl Ap rfl ?_;rw[HF.o];exact⟨rfl,below_setRow D.o Aa _⟩
end BigW
namespace BigW
open Go.RowKit Mem BigLaw Rws
def P5(s:St)(dt q:Int)(w:World)(hs:Mi s)(g:In64 dt)(rF:In64 q):
  Calls prog 89 #[SI s,.int .i64 dt,.int .i64 q] w fun e w'=>fD w w' (Ie s dt q) e:=by
 obtain⟨X,V,B,N,O,W,Z⟩:=s;obtain⟨qW,rq,qQ,n,k⟩:=hs
 simp only at qW rq qQ n k
 unfold SI ME
 obtain⟨R,l⟩:=AJ (((w.alloc (.cells (AZ X V B N O W Z) 25)).alloc (.cells VD 25)).alloc (.cells #[.bool W] 163))
 have A:=zz (show Below w.heap.size w R from by rw[←l];exact((DC).alloc Bq _).alloc Ec _)
 have Y:=zz (show ED R w.heap.size ⟨X,V,B,N,O,W,Z⟩from by rw[←l];exact((Ae.new rfl).alloc _).alloc _)
 have C:=zz (show Nq R 163 (w.heap.size+1+1) W from by rw[←l];exact Ae.new Bq)
 have F:=zz (show Ae R (w.heap.size+1) 25 VD from by rw[←l];exact(Ae.new Bq).alloc _)
 have hsz:w.heap.size+3<=R.heap.size:=by rw[←l];simp
 have qX:=zz l;clear l;obtain⟨t,tb,T_,qZ⟩:=Iu Ce N dt;obtain⟨u,ub,U_,qU⟩:=Iu Ce O dt;obtain⟨m,f,M_,rE⟩:=Iu Ce V dt;obtain⟨x,xb,X_,rP⟩:=Iu BZ X m;obtain⟨a,ab,A_,rG⟩:=Iu BZ B t;obtain⟨b,bb,B_,ru⟩:=Iu BZ a t;obtain⟨c,cb,C_,rA⟩:=Iu Ce u dt;obtain⟨d,db,D_,rO⟩:=Iu BZ b c;obtain⟨r,v,qY,rH⟩:=Iu BZ N u;obtain⟨i,y,qV,rJ⟩:=Iu BZ O q
 go_in
 go_upto_region 2 with fail
 rw[qX.o];clear qX;obtain⟨gk,rC⟩:=AJ (w.heap.size+1+1);rw[rC]at C ⊢;obtain⟨gr,rD⟩:=AJ (w.heap.size+1);rw[rD]at F ⊢
 (try clear I L J G H D E)
 (try clear kh)
 obtain⟨I,L,J,G,H,D,E⟩:=Ai Y.o;go_wp2_with fail;refine(FM gk _ N dt _ C.o n g).mono ?_;intro e R z;rw[T_.o]at z;obtain⟨rfl,U,T⟩:=z;dsimp only at U;have C:=zz U;have F:=Hg F T Aa;have Y:=Hg Y T Aa;have A:=Hb A T Nr Aa;replace hsz:=Nat.le_trans hsz T.size;clear U T
 (try clear I L J G H D E)
 (try clear kh)
 obtain⟨I,L,J,G,H,D,E⟩:=Ai Y.o;go_wp2_with fail;refine(FM gk _ O dt _ C.o k g).mono ?_;intro e R z;rw[U_.o]at z;obtain⟨rfl,U,T⟩:=z;dsimp only at U;have C:=zz U;have F:=Hg F T Aa;have Y:=Hg Y T Aa;have A:=Hb A T Nr Aa;replace hsz:=Nat.le_trans hsz T.size;clear U T
 (try clear I L J G H D E)
 (try clear kh)
 obtain⟨I,L,J,G,H,D,E⟩:=Ai Y.o
 have HG:=zz (show Ae R w.heap.size 25 (AZ X V B N O W Z)from Y.o)
 go_upto_region 5 with(refine Ad rfl 25 _ rfl w.heap.size rfl HG.o _ underlying25 rfl Ap ?_)
 clear HG
 have M:=zz (show ED (R.alloc (.cells (AZ X V B N O W Z) 25)) R.heap.size ⟨X,V,B,N,O,W,Z⟩from Ae.fresh _ _ _)
 have Y:=zz (show ED (R.alloc (.cells (AZ X V B N O W Z) 25)) w.heap.size ⟨X,V,B,N,O,W,Z⟩from Ae.alloc Y.o _)
 have C:=zz (Ae.alloc C.o (.cells (AZ X V B N O W Z) 25));have F:=zz (F.o.alloc (.cells (AZ X V B N O W Z) 25));have A:=zz (A.o.alloc Aa (.cells (AZ X V B N O W Z) 25));obtain⟨gn,qR⟩:=AJ (R.heap.size);have rM:w.heap.size+3<=gn:=Aa;replace hsz:w.heap.size+3<=(R.alloc (.cells (AZ X V B N O W Z) 25)).heap.size:=Ec;rw[qR]at M ⊢;clear qR
 generalize(R.alloc (.cells (AZ X V B N O W Z) 25))=R at*
 (try clear I L J G H D E)
 (try clear kh)
 obtain⟨I,L,J,G,H,D,E⟩:=Ai Y.o;have Y:=zz (Ae.drew Y.o);have F:=zz (F.o.drew);have C:=zz (Ae.drew C.o);have M:=zz (Ae.drew M.o);have A:=zz A.o.drew;have hsz:w.heap.size+3<=R.drew.heap.size:=hsz
 (try clear I L J G H D E)
 (try clear kh)
 obtain⟨I,L,J,G,H,D,E⟩:=Ai Y.o;have HS:=And.intro I (And.intro L (And.intro J (And.intro G H)));refine wp_region_noPanic ?_;refine A8 [2,5] (fun w'=> w'.cell? ⟨w.heap.size,0,none⟩=some (.int .i64 X)/\ w'.cell? ⟨w.heap.size,1,none⟩=some (.int .i64 V)/\ w'.cell? ⟨w.heap.size,2,none⟩=some (.int .i64 B)/\ w'.cell? ⟨w.heap.size,3,none⟩=some (.int .i64 N)/\ w'.cell? ⟨w.heap.size,4,none⟩=some (.int .i64 O)) Ap ?_
 generalize R.drew=R at*
 refine Ac 0 ?_;refine Ac 1 ?_;refine Bc 2 HS ?_;refine Ac 3 ?_;refine Ac 4 ?_;refine Bc 5 HS ?_;refine Ac 6 ?_;refine Aw 7 ?_;refine Bt ?_;intro K hK;rw[Ao Bb];go_simp
 go_at_call 116
 refine(FM gk _ V dt _ C.o rq g).mono ?_;intro e R z;rw[M_.o]at z;obtain⟨rfl,U,T⟩:=z;dsimp only at U;have C:=zz U;have F:=Hg F T Aa;have Y:=Hg Y T Aa;have M:=Hg M T Aa;have A:=Hb A T Nr Aa;replace hsz:=Nat.le_trans hsz T.size;clear U T
 (try clear I L J G H D E)
 (try clear kh)
 obtain⟨I,L,J,G,H,D,E⟩:=Ai Y.o;clear HS;have HS:=And.intro I (And.intro L (And.intro J (And.intro G H)));go_wp2_with fail;refine hK.o _ _ HS ?_;refine Aw 8 ?_;refine AX ?_ ?_
 . kernel_rfl
 intro K hK;rw[Ao Bb];go_simp
 go_at_call 115
 refine(GI gk _ X m _ C.o qW rE).mono ?_;intro e R z;rw[X_.o]at z;obtain⟨rfl,U,T⟩:=z;dsimp only at U;have C:=zz U;have F:=Hg F T Aa;have Y:=Hg Y T Aa;have M:=Hg M T Aa;have A:=Hb A T Nr Aa;replace hsz:=Nat.le_trans hsz T.size;clear U T
 (try clear I L J G H D E)
 (try clear kh)
 obtain⟨I,L,J,G,H,D,E⟩:=Ai Y.o;clear HS;have HS:=And.intro I (And.intro L (And.intro J (And.intro G H)));obtain⟨f0,f1,f2,f3,f4,f5,f6⟩:=Cs M.o;obtain⟨j0,j1,j2,j3,j4,j5,j6⟩:=Ai M.o;go_wp2_with fail;refine hK.o _ _ ?_;refine Ac 9 ?_;refine Aw 10 ?_;refine AX ?_ ?_
 . kernel_rfl
 intro K hK;go_simp;refine hK.o _ _ ?_;(try simp only[Rg.lp]);refine Bg Ap ?_ _;refine NoPanic.normal ?_;clear HS f0 f1 f2 f3 f4 f5 f6;clear j0 j1 j2 j3 j4 j5 j6
 have j:=zz (show ED (R.setCell ⟨gn,0,none⟩ (.int .i64 x)) gn ⟨x,V,B,N,O,W,Z⟩from Ae.set M.o 0 (.int .i64 x))
 have F:=zz (F.o.other (p:=⟨gn,0,none⟩) (by show _≠gn;omega) (.int .i64 x))
 have Y:=zz (Ae.other Y.o (p:=⟨gn,0,none⟩) (by show _≠gn;omega) (.int .i64 x))
 have C:=zz (Ae.other C.o (p:=⟨gn,0,none⟩) (by show _≠gn;omega) (.int .i64 x))
 have A:=zz (A.o.setCell (p:=⟨gn,0,none⟩) (by show _<=gn;omega) (.int .i64 x))
 replace hsz:w.heap.size+3<=(R.setCell ⟨gn,0,none⟩ (.int .i64 x)).heap.size:=by simpa using hsz
 have M:=j;clear j
 generalize(R.setCell ⟨gn,0,none⟩ (.int .i64 x))=R at*
 (try clear I L J G H D E)
 (try clear kh)
 obtain⟨I,L,J,G,H,D,E⟩:=Ai Y.o
 go_upto_region 6 with fail
 go_wp2_with fail;refine(GI gk _ B t _ C.o qQ qZ).mono ?_;intro e R z;rw[A_.o]at z;obtain⟨rfl,U,T⟩:=z;dsimp only at U;have C:=zz U;have F:=Hg F T Aa;have Y:=Hg Y T Aa;have M:=Hg M T Aa;have A:=Hb A T Nr Aa;replace hsz:=Nat.le_trans hsz T.size;clear U T
 (try clear I L J G H D E)
 (try clear kh)
 obtain⟨I,L,J,G,H,D,E⟩:=Ai Y.o;go_wp2_with fail;refine(GI gk _ a t _ C.o rG qZ).mono ?_;intro e R z;rw[B_.o]at z;obtain⟨rfl,U,T⟩:=z;dsimp only at U;have C:=zz U;have F:=Hg F T Aa;have Y:=Hg Y T Aa;have M:=Hg M T Aa;have A:=Hb A T Nr Aa;replace hsz:=Nat.le_trans hsz T.size;clear U T
 (try clear I L J G H D E)
 (try clear kh)
 obtain⟨I,L,J,G,H,D,E⟩:=Ai Y.o;go_wp2_with fail;refine(FM gk _ u dt _ C.o qU g).mono ?_;intro e R z;rw[C_.o]at z;obtain⟨rfl,U,T⟩:=z;dsimp only at U;have C:=zz U;have F:=Hg F T Aa;have Y:=Hg Y T Aa;have M:=Hg M T Aa;have A:=Hb A T Nr Aa;replace hsz:=Nat.le_trans hsz T.size;clear U T
 (try clear I L J G H D E)
 (try clear kh)
 obtain⟨I,L,J,G,H,D,E⟩:=Ai Y.o;go_wp2_with fail;refine(GI gk _ b c _ C.o ru rA).mono ?_;intro e R z;rw[D_.o]at z;obtain⟨rfl,U,T⟩:=z;dsimp only at U;have C:=zz U;have F:=Hg F T Aa;have Y:=Hg Y T Aa;have M:=Hg M T Aa;have A:=Hb A T Nr Aa;replace hsz:=Nat.le_trans hsz T.size;clear U T
 (try clear I L J G H D E)
 (try clear kh)
 obtain⟨I,L,J,G,H,D,E⟩:=Ai Y.o;obtain⟨f0,f1,f2,f3,f4,f5,f6⟩:=Cs M.o;obtain⟨j0,j1,j2,j3,j4,j5,j6⟩:=Ai M.o
 go_upto_region 7 with fail
 clear f0 f1 f2 f3 f4 f5 f6 j0 j1 j2 j3 j4 j5 j6
 have j:=zz (show ED (R.setCell ⟨gn,2,none⟩ (.int .i64 d)) gn ⟨x,V,d,N,O,W,Z⟩from Ae.set M.o 2 (.int .i64 d))
 have F:=zz (F.o.other (p:=⟨gn,2,none⟩) (by show _≠gn;omega) (.int .i64 d))
 have Y:=zz (Ae.other Y.o (p:=⟨gn,2,none⟩) (by show _≠gn;omega) (.int .i64 d))
 have C:=zz (Ae.other C.o (p:=⟨gn,2,none⟩) (by show _≠gn;omega) (.int .i64 d))
 have A:=zz (A.o.setCell (p:=⟨gn,2,none⟩) (by show _<=gn;omega) (.int .i64 d))
 replace hsz:w.heap.size+3<=(R.setCell ⟨gn,2,none⟩ (.int .i64 d)).heap.size:=by simpa using hsz
 have M:=j;clear j
 generalize(R.setCell ⟨gn,2,none⟩ (.int .i64 d))=R at*
 (try clear I L J G H D E)
 (try clear kh)
 obtain⟨I,L,J,G,H,D,E⟩:=Ai Y.o;go_wp2_with fail;refine(GI gk _ N u _ C.o n qU).mono ?_;intro e R z;rw[qY.o]at z;obtain⟨rfl,U,T⟩:=z;dsimp only at U;have C:=zz U;have F:=Hg F T Aa;have Y:=Hg Y T Aa;have M:=Hg M T Aa;have A:=Hb A T Nr Aa;replace hsz:=Nat.le_trans hsz T.size;clear U T
 (try clear I L J G H D E)
 (try clear kh)
 obtain⟨I,L,J,G,H,D,E⟩:=Ai Y.o;obtain⟨f0,f1,f2,f3,f4,f5,f6⟩:=Cs M.o;obtain⟨j0,j1,j2,j3,j4,j5,j6⟩:=Ai M.o
 go_upto_region 8 with fail
 clear f0 f1 f2 f3 f4 f5 f6 j0 j1 j2 j3 j4 j5 j6
 have j:=zz (show ED (R.setCell ⟨gn,3,none⟩ (.int .i64 r)) gn ⟨x,V,d,r,O,W,Z⟩from Ae.set M.o 3 (.int .i64 r))
 have F:=zz (F.o.other (p:=⟨gn,3,none⟩) (by show _≠gn;omega) (.int .i64 r))
 have Y:=zz (Ae.other Y.o (p:=⟨gn,3,none⟩) (by show _≠gn;omega) (.int .i64 r))
 have C:=zz (Ae.other C.o (p:=⟨gn,3,none⟩) (by show _≠gn;omega) (.int .i64 r))
 have A:=zz (A.o.setCell (p:=⟨gn,3,none⟩) (by show _<=gn;omega) (.int .i64 r))
 replace hsz:w.heap.size+3<=(R.setCell ⟨gn,3,none⟩ (.int .i64 r)).heap.size:=by simpa using hsz
 have M:=j;clear j
 generalize(R.setCell ⟨gn,3,none⟩ (.int .i64 r))=R at*
 (try clear I L J G H D E)
 (try clear kh)
 obtain⟨I,L,J,G,H,D,E⟩:=Ai Y.o;go_wp2_with fail;refine(GI gk _ O q _ C.o k rF).mono ?_;intro e R z;rw[qV.o]at z;obtain⟨rfl,U,T⟩:=z;dsimp only at U;have C:=zz U;have F:=Hg F T Aa;have Y:=Hg Y T Aa;have M:=Hg M T Aa;have A:=Hb A T Nr Aa;replace hsz:=Nat.le_trans hsz T.size;clear U T
 (try clear I L J G H D E)
 (try clear kh)
 obtain⟨I,L,J,G,H,D,E⟩:=Ai Y.o;obtain⟨f0,f1,f2,f3,f4,f5,f6⟩:=Cs M.o;obtain⟨j0,j1,j2,j3,j4,j5,j6⟩:=Ai M.o
 go_upto_region 9 with fail
 clear f0 f1 f2 f3 f4 f5 f6 j0 j1 j2 j3 j4 j5 j6
 have j:=zz (show ED (R.setCell ⟨gn,4,none⟩ (.int .i64 i)) gn ⟨x,V,d,r,i,W,Z⟩from Ae.set M.o 4 (.int .i64 i))
 have F:=zz (F.o.other (p:=⟨gn,4,none⟩) (by show _≠gn;omega) (.int .i64 i))
 have Y:=zz (Ae.other Y.o (p:=⟨gn,4,none⟩) (by show _≠gn;omega) (.int .i64 i))
 have C:=zz (Ae.other C.o (p:=⟨gn,4,none⟩) (by show _≠gn;omega) (.int .i64 i))
 have A:=zz (A.o.setCell (p:=⟨gn,4,none⟩) (by show _<=gn;omega) (.int .i64 i))
 replace hsz:w.heap.size+3<=(R.setCell ⟨gn,4,none⟩ (.int .i64 i)).heap.size:=by simpa using hsz
 have M:=j;clear j
 generalize(R.setCell ⟨gn,4,none⟩ (.int .i64 i))=R at*
 (try clear I L J G H D E)
 (try clear kh)
 obtain⟨I,L,J,G,H,D,E⟩:=Ai Y.o;obtain⟨f0,f1,f2,f3,f4,f5,f6⟩:=Cs M.o;obtain⟨j0,j1,j2,j3,j4,j5,j6⟩:=Ai M.o;have kb:=one_cell C.o
 go_upto_region 10 with fail
 clear f0 f1 f2 f3 f4 f5 f6 j0 j1 j2 j3 j4 j5 j6 kb
 have j:=zz (show ED (R.setCell ⟨gn,5,none⟩ (.bool ((((((((((W||tb)||ub)||f)||xb)||ab)||bb)||cb)||db)||v)||y))) gn ⟨x,V,d,r,i,((((((((((W||tb)||ub)||f)||xb)||ab)||bb)||cb)||db)||v)||y),Z⟩from Ae.set M.o 5 (.bool ((((((((((W||tb)||ub)||f)||xb)||ab)||bb)||cb)||db)||v)||y)))
 have F:=zz (F.o.other (p:=⟨gn,5,none⟩) (by show _≠gn;omega) (.bool ((((((((((W||tb)||ub)||f)||xb)||ab)||bb)||cb)||db)||v)||y)))
 have Y:=zz (Ae.other Y.o (p:=⟨gn,5,none⟩) (by show _≠gn;omega) (.bool ((((((((((W||tb)||ub)||f)||xb)||ab)||bb)||cb)||db)||v)||y)))
 have C:=zz (Ae.other C.o (p:=⟨gn,5,none⟩) (by show _≠gn;omega) (.bool ((((((((((W||tb)||ub)||f)||xb)||ab)||bb)||cb)||db)||v)||y)))
 have A:=zz (A.o.setCell (p:=⟨gn,5,none⟩) (by show _<=gn;omega) (.bool ((((((((((W||tb)||ub)||f)||xb)||ab)||bb)||cb)||db)||v)||y)))
 replace hsz:w.heap.size+3<=(R.setCell ⟨gn,5,none⟩ (.bool ((((((((((W||tb)||ub)||f)||xb)||ab)||bb)||cb)||db)||v)||y))).heap.size:=by simpa using hsz
 have M:=j;clear j
 generalize(R.setCell ⟨gn,5,none⟩ (.bool ((((((((((W||tb)||ub)||f)||xb)||ab)||bb)||cb)||db)||v)||y)))=R at*
 (try clear I L J G H D E)
 (try clear kh)
 obtain⟨I,L,J,G,H,D,E⟩:=Ai Y.o
 have HG:=zz (show Ae R gn 25 #[.int .i64 x,.int .i64 V,.int .i64 d,.int .i64 r,.int .i64 i,.bool ((((((((((W||tb)||ub)||f)||xb)||ab)||bb)||cb)||db)||v)||y),.int .i64 Z]from M.o)
 have HF:=zz (show Ie ⟨X,V,B,N,O,W,Z⟩ dt q=⟨x,V,d,r,i,((((((((((W||tb)||ub)||f)||xb)||ab)||bb)||cb)||db)||v)||y),Z⟩by simp only[Ie,T_.o,U_.o,M_.o,X_.o,A_.o,B_.o,C_.o,D_.o,qY.o,qV.o])
 clear I L J G H D E
 go_wp2_with(first|(refine Ad rfl 25 _ rfl gn rfl HG.o _ underlying25 rfl Ap ?_)|(refine wpList_store_row rfl 25 _ _ rfl gr #[.int .i64 x,.int .i64 V,.int .i64 d,.int .i64 r,.int .i64 i,.bool ((((((((((W||tb)||ub)||f)||xb)||ab)||bb)||cb)||db)||v)||y),.int .i64 Z] rfl rfl 25 _ F.o Ap rfl GR ?_))
 refine Fs rfl rfl (F.o.setRow #[.int .i64 x,.int .i64 V,.int .i64 d,.int .i64 r,.int .i64 i,.bool ((((((((((W||tb)||ub)||f)||xb)||ab)||bb)||cb)||db)||v)||y),.int .i64 Z]) underlying25 rfl Ap rfl ?_;rw[HF.o];exact⟨rfl,below_setRow A.o Aa _⟩
end BigW
end Go.Proofs.YtjobajeggllmiaaGreat
