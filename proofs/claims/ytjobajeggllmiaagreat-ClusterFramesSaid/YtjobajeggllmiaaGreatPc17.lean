import Derived.Test.YtjobajeggllmiaaGreatPc0
import Derived.Test.YtjobajeggllmiaaGreatPc16
set_option linter.all false
set_option maxHeartbeats 100000000
set_option maxRecDepth 100000
namespace Go.Proofs.YtjobajeggllmiaaGreat
open _root_.Go.Proofs.Tryz
namespace BigW
open Go.RowKit Mem BigLaw
def Em(l:List Nat):List Value:=l.map fun(x:Nat)=>Value.int .u32 (x:Int)
def Od{l:List Nat}{k:Nat}(Z:k<l.length):(Em l)[k]?=some (.int .u32 (l.getD k 0:Int)):=by
 simp[Em,Z]
def FW(l:List Nat):(Em l).length=l.length:=by simp[Em]
def Pv(l:List Nat):∀u∈Em l,u.oneCell'=true:=fun u Z=>by
 obtain⟨z,_,rfl⟩:=List.mem_map.1 Z;rfl
structure Wd(w:World)(B:Nat)(A:Option Addr)(c:Nat)(l:List Nat):Prop where
 len:l.length<=c
 cap:c<=9223372036854775807
 none_:A=none->c=0
 rd:Rd w B 1 A l.length (Em l)
 small:small l
def Wd.below{w w':World}{B:Nat}{A:Option Addr}{c:Nat}{l:List Nat}(h:Wd w B A c l)(hb:Below B w w'):Wd w' B A c l:=⟨h.len,h.cap,h.none_,h.rd.below hb,h.small⟩
def Wd.more{w:World}{B Z:Nat}{A:Option Addr}{c:Nat}{l:List Nat}(h:Wd w B A c l)(hb:B<=Z):Wd w Z A c l:=⟨h.len,h.cap,h.none_,h.rd.more hb,h.small⟩
def Wd.keep{w w':World}{B:Nat}{A:Option Addr}{c:Nat}{l:List Nat}(h:Wd w B A c l)(Z:∀b o,b<B-> w'.cell? ⟨b,o,none⟩= w.cell? ⟨b,o,none⟩):Wd w' B A c l:=⟨h.len,h.cap,h.none_,h.rd.keep Z,h.small⟩
def Wd.nil(w:World)(B:Nat):Wd w B none 0 []:=⟨Nat.le_refl _,Aa,fun _=>rfl,Rd.nil _ _ _ _,fun _ h=>by cases h⟩
def Wd.at_{w:World}{B:Nat}{A:Option Addr}{c:Nat}{l:List Nat}(h:Wd w B A c l){k:Nat}(Y:k<l.length):∃b o,A=some ⟨b,o,none⟩/\b<B/\ w.cell? ⟨b,o+k,none⟩=some (.int .u32 (l.getD k 0:Int)):=by
 obtain⟨b,o,u,e,hb,Z,X⟩:=h.rd.at Y;rw[Od Y]at Z
 injection Z with Z
 subst Z;exact⟨b,o,e,hb,X⟩
def Wd.take{w:World}{B:Nat}{A:Option Addr}{c:Nat}{l:List Nat}(h:Wd w B A c l){n:Nat}(V:n<=l.length):Wd w B A c (l.take n):=by
 have Z:(l.take n).length=n:=by rw[List.length_take];omega
 refine⟨by have:=h.len;omega,h.cap,h.none_,?_,X8 h.small n⟩;rw[Z];refine⟨by rw[FW,Z,Nat.mul_one],fun U=>?_⟩;obtain⟨b,o,e,hb,X⟩:=h.rd.2 Aa;refine⟨b,o,e,hb,fun j u Y=>X j u ?_⟩
 have W:j<n:=by have:=(List.getElem?_eq_some_iff.1 Y).1;rw[FW,Z]at this;exact this
 have:(Em (l.take n))[j]?=(Em l)[j]?:=by
  simp[Em,W]
 rw[←this];exact Y
def ZG(A:Option Addr)(c:Nat)(l:List Nat)(e:Ending):Prop:=∃n,n<=l.length/\e=.returned (.slice A n c)/\DY (l.take n)/\val (l.take n)=val l
def FK(A:Option Addr)(c:Nat)(l:List Nat)(B:Nat)(w:World)(h:Wd w B A c l):
  Calls prog 151 #[.slice A l.length c] w fun e w'=>ZG A c l e/\w=w':=by
 have O:=h.len;have R:=h.cap;have H:=zz h;clear h
 go_in
 go_wp2_with fail
 go_loop[3] (fun i=>∃n:Nat,n<=l.length/\i=.int .i64 n/\val (l.take n)=val l) (fun i=>(intOf i).toNat)
 .exact⟨l.length,Nat.le_refl _,rfl,by rw[List.take_of_length_le Nr]⟩
 obtain⟨n,J,rfl,T⟩:=hrel;have Y:=zz T;clear T
 by_cases U:0<n
 .obtain⟨k,rfl⟩:∃k,n=k+1:=⟨n-1,Aa⟩
  obtain⟨b,o,rfl,hb,M⟩:=H.o.at_ (show k<l.length by omega)
  have V:=zz (show val (l.take (k+1))=val (l.take k)+l.getD k 0*pw k by rw[Vu Aa,Vu Aa,EI])
  have N:=zz (show ∀(Z:l.getD k 0≠0),DY (l.take (k+1))from fun Z _=>by
   rw[List.length_take,Nat.min_eq_left Aa,Nat.add_sub_cancel];rw[List.getD_eq_getElem?_getD,List.getElem?_take,Ao Aa,←List.getD_eq_getElem?_getD]
   exact Z)
  generalize l.getD k 0=x at M V N;have L:((k+1:Nat):Int)-1=(k:Int):=Aa
  by_cases Z:x=0
  .have X:((x:Int)==0)=true:=by simp[Z]
   have W:=zz Z;clear Z;go_wp2_with fail;exact⟨⟨k,Aa,rfl,by rw[←Y.o,V.o,W.o];simp⟩,by simp[intOf]⟩
  have X:((x:Int)==0)=false:=by simp[Z]
  have W:=zz Z;clear Z;go_wp2_with fail
  go_ret
  exact⟨⟨k+1,Aa,rfl,N.o W.o,Y.o⟩,rfl⟩
 obtain rfl:n=0:=Aa;go_wp2_with fail
 go_ret
 exact⟨⟨0,Aa,rfl,fun h=>by simp at h,Y.o⟩,rfl⟩
def Q0(w w':World)(n:Nat)(e:Ending):Prop:=∃A c l,e=.returned (.slice A l.length c)/\Wd w' w'.heap.size A c l/\DY l/\val l=n/\Below w.heap.size w w'
def Dc{w Z:World}{A:Option Addr}{c:Nat}{l:List Nat}{B n:Nat}(h:Wd Z B A c l)(X:B<=Z.heap.size)(hb:Below w.heap.size w Z)(W:val l=n){e:Ending}(V:ZG A c l e):Q0 w Z n e:=by
 obtain⟨k,Y,rfl,T,U⟩:=V;refine⟨A,c,l.take k,?_,(h.take Y).more X,T,U.trans W,hb⟩;rw[List.length_take,Nat.min_eq_left Y]
def ES{w:World}{g:Nat}{t:TypeId}{f:Nat->Nat}{n:Nat}(h:Ae w g t (BH .u32 n fun i=>(f i:Int)))(W:n<=9223372036854775807)(V:∀i,i<n->f i<4294967296):Wd w (g+1) (some ⟨g,0,none⟩) n ((List.range n).map f):=by
 refine⟨Bq,W,Bq,⟨by simp[Em],fun _=>⟨g,0,rfl,Aa,fun j u Y=>?_⟩⟩,?_⟩
 .have Z:j<n:=by have:=(List.getElem?_eq_some_iff.1 Y).1;simpa[Em] using this
  rw[Nat.zero_add,h.cell j,Cu _ _ _ _ Z]
  simpa[Em,Z] using Y
 intro x X;obtain⟨i,hi,rfl⟩:=List.mem_map.1 X;exact V i (List.mem_range.1 hi)
def GK(f:Nat->Nat)(n:Nat):val ((List.range n).map f)=AB f n:=by
 unfold val
 rw[List.length_map,List.length_range];refine CY fun i hi=>?_
 simp[List.getD_eq_getElem?_getD,hi]
def LX(x:Nat)(O:x<18446744073709551616)(w:World):
  Calls prog 150 #[.int .u64 (x:Int)] w fun e w'=>Q0 w w' x e:=by
 have hb:Ae (w.alloc (.cells #[.int .u32 ((x:Int)%4294967296),.int .u32 ((x:Int)/4294967296)] 172)) w.heap.size 172 (BH .u32 2 fun i=>(([x%4294967296,x/4294967296].getD i 0:Nat):Int)):=by
  have e:BH .u32 2 (fun i=>(([x%4294967296,x/4294967296].getD i 0:Nat):Int))=#[.int .u32 ((x:Int)%4294967296),.int .u32 ((x:Int)/4294967296)]:=rfl;rw[e];exact Ae.new rfl
 have V:=ES hb Aa (fun i hi=>by
  obtain rfl|rfl:i=0\/i=1:=Aa
  . exact Nat.mod_lt _ Aa
  exact Nat.div_lt_of_lt_mul Aa)
 have Y:val ((List.range 2).map fun i=>[x%4294967296,x/4294967296].getD i 0)=x:=by
  rw[GK]
  show 0+x%4294967296*1+x/4294967296*(4294967296 ^ 1)=x
  omega
 have W:=zz V;have R:=zz Y;clear hb V Y
 go_in
 go_wp2_with fail;refine(FK _ 2 ((List.range 2).map fun i=>[x%4294967296,x/4294967296].getD i 0) _ _ W.o).mono ?_;rintro e w' ⟨Z,rfl⟩;have U:=Dc (w:=w) W.o Bq (DC) R.o Z;obtain⟨A,c,l,rfl,X⟩:=U;have T:=zz X;clear X Z;go_wp2_with fail
 go_ret
 exact⟨A,c,l,rfl,T.o⟩
def Nw(A p:Option Addr)(c m:Nat)(l l':List Nat)(B:Nat)(w:World)(hB:B<=w.heap.size)(h:Wd w B A c l)(O:Wd w B p m l')(t:DY l)(t':DY l'):
  Calls prog 133 #[.slice A l.length c,.slice p l'.length m] w fun e w'=>e=.returned (.int .i64 (MB (val l) (val l')))/\Below w.heap.size w w':=by
 have r:=h.len;have s:=h.cap;have I:=O.len;have G:=O.cap;have H:=zz h;have v:=zz O;have T:=zz t;have T':=zz t';clear h O t t'
 by_cases Y:l.length=l'.length
 .have R:=zz Y
  have L:((l.length:Int)!=(l'.length:Int))=false:=by simp[Y]
  clear Y
  go_in
  go_wp2_with fail
  go_loopw[5] (fun i wr=>∃k:Nat,k<=l.length/\i=.int .i64 ((k:Int)-1)/\(∀j,k<=j->j<l.length->l.getD j 0=l'.getD j 0)/\Below w.heap.size w wr) (fun i _=>(intOf i+1).toNat)
  .exact⟨l.length,Nat.le_refl _,rfl,fun j Y W=>by omega,Below.refl _ _⟩
  obtain⟨k,hk,rfl,d,hb⟩:=hrel;have N:=zz d;clear d
  by_cases u:0<k
  .obtain⟨q,rfl⟩:∃q,k=q+1:=⟨k-1,Aa⟩
   rw[show((q+1:Nat):Int)-1=(q:Int)by omega]
   obtain⟨b,o,rfl,qR,hc⟩:=(H.o.keep (w':=wr) (fun b o M=>BF hb b o Aa)).at_ (show q<l.length by omega)
   obtain⟨b',o',rfl,qQ,z⟩:=(v.o.keep (w':=wr) (fun b o M=>BF hb b o Aa)).at_ (show q<l'.length by have:=R.o;omega)
   have qU:(q:Int)<(l.length:Int):=Aa
   have qV:(q:Int)<(l'.length:Int):=by have:=R.o;omega
   have J:=zz (show l.getD q 0<l'.getD q 0->val l<val l' from fun V=>by
    have:=Za (f:=fun i=>l.getD i 0) (g:=fun i=>l'.getD i 0) (n:=l.length) (i:=q) Aa (fun j _=>getD_lt H.o.small j) V (fun j Y W=>N.o j Aa W)
    unfold val;rw[←R.o];exact this)
   have C:=zz (show l'.getD q 0<l.getD q 0->val l'<val l from fun V=>by
    have:=Za (f:=fun i=>l'.getD i 0) (g:=fun i=>l.getD i 0) (n:=l.length) (i:=q) Aa (fun j _=>getD_lt v.o.small j) V (fun j Y W=>(N.o j Aa W).symm)
    unfold val;rw[←R.o];exact this)
   have F:=zz (show l.getD q 0=l'.getD q 0->∀j,q<=j->j<l.length->l.getD j 0=l'.getD j 0 from fun V j Y W=>by
    by_cases e:j=q
    . subst e;exact V
    exact N.o j Aa W)
   generalize l.getD q 0=x at hc J C F;generalize l'.getD q 0=y at z J C F
   by_cases Z:x=y
   .have hn:((x:Int)!=(y:Int))=false:=by simp[Z]
    have E:=zz Z;clear Z;go_wp2_with fail
    go_quiet (fail)
    go_wp2_with fail;exact⟨⟨q,Aa,rfl,F.o E.o,below_drewN hb nq⟩,by simp[intOf]⟩
   have hn:((x:Int)!=(y:Int))=true:=Ec
   by_cases D:x<y
   .have X:=zz (show MB (val l) (val l')= -1 by unfold MB;rw[Ao (J.o D)])
    clear Z;have U:(x:Int)<(y:Int):=Aa;go_wp2_with fail
    go_quiet (fail)
    go_wp2_with fail
    go_quiet (fail)
    go_wp2_with fail
    go_ret
    exact⟨by rw[X.o];rfl,below_drewN (below_drewN hb _) _⟩
   have X:=zz (show MB (val l) (val l')=1 by unfold MB;have:=C.o Aa;rw[Aj Aa,Ao this])
   clear Z;have U:decide ((x:Int)<(y:Int))=false:=Ec;go_wp2_with fail
   go_quiet (fail)
   go_wp2_with fail
   go_quiet (fail)
   go_wp2_with fail
   go_ret
   exact⟨by rw[X.o];rfl,below_drewN (below_drewN hb _) _⟩
  have X:=zz (show MB (val l) (val l')=0 by
   have:val l=val l':=by
    unfold val;rw[←R.o];exact CY fun i hi=>N.o i Aa hi
   unfold MB;rw[this];simp)
  obtain rfl:k=0:=Aa;go_wp2_with fail
  go_ret
  exact⟨by rw[X.o];rfl,hb⟩
 have L:((l.length:Int)!=(l'.length:Int))=true:=Ec
 by_cases W:l.length<l'.length
 .have X:=zz (show MB (val l) (val l')= -1 by unfold MB;rw[Ao (YH H.o.small T'.o W)])
  clear Y
  go_in
  go_wp2_with fail
  go_ret
  exact⟨by rw[X.o];rfl,Below.refl _ _⟩
 have X:=zz (show MB (val l) (val l')=1 by
  have:=YH v.o.small T.o (show l'.length<l.length by omega)
  unfold MB;rw[Aj Aa,Ao this])
 clear Y
 go_in
 go_wp2_with fail
 go_ret
 exact⟨by rw[X.o];rfl,Below.refl _ _⟩
end BigW
namespace BigW
open Go.RowKit Mem BigLaw
def Ig:Elem prog 155 172 (.int .u32 0) 1 4:=⟨underlying155,Ap,rfl,Aa⟩
def Dg{l:List Nat}{i:Nat}(h:l.length<=i):l.getD i 0=0:=by
 rw[List.getD_eq_getElem?_getD,List.getElem?_eq_none h];rfl
def FY{l:List Nat}{n:Nat}(h:l.length<=n):AB (fun i=>l.getD i 0) n=val l:=Ja h fun i Z _=>Dg Z
def YW{l l':List Nat}(W:small l)(Z:small l')(h:l'.length<=l.length):
  (GL (fun i=>l.getD i 0) (fun i=>l'.getD i 0) l.length=Fz (fun i=>l.getD i 0) (fun i=>l'.getD i 0) l.length)/\
  AB (GL (fun i=>l.getD i 0) (fun i=>l'.getD i 0)) (l.length+1)=val l+val l':=by
 have V:=Mc (f:=fun i=>l.getD i 0) (g:=fun i=>l'.getD i 0) (fun i=>getD_lt W i) (fun i=>getD_lt Z i) l.length
 have Y:GL (fun i=>l.getD i 0) (fun i=>l'.getD i 0) l.length=Fz (fun i=>l.getD i 0) (fun i=>l'.getD i 0) l.length:=by
  unfold GL
  simp only[Dg (Nat.le_refl l.length),Dg h];omega
 refine⟨Y,?_⟩;have X:=TU (fun i=>l.getD i 0) (fun i=>l'.getD i 0) l.length;rw[FY Nr,FY h]at X;rw[EI,Y];omega
def kF(A A':Option Addr)(c c':Nat)(l Z:List Nat)(B:Nat)(w:World)(hB:B<=w.heap.size)(h:Wd w B A c l)(z:Wd w B A' c' Z)(r:l.length<=1000000)(G:Z.length<=1000000):
  Calls prog 132 #[.slice A l.length c,.slice A' Z.length c'] w fun e w'=>Q0 w w' (val l+val Z) e:=by
 by_cases t:l.length<Z.length
 .rw[Nat.add_comm]
  revert t h z r G
  revert A A' c c' l Z
  intro A' A c' c Z l z h G r t;have qQ:(Z.length:Int)<(l.length:Int):=Aa;have H:=zz h;have I:=zz z;clear h z
  go_in
  go_wp2_with(refine wpList_make_row rfl _ _ _ rfl Ig (l.length+1) rfl rfl BG BG Aa Aa ?_)
  go_loopw[6,7] (fun c i wr=>∃k:Nat,k<=l.length/\i=.int .i64 k/\c=.int .u64 (Fz (fun i=>l.getD i 0) (fun i=>Z.getD i 0) k:Nat)/\Ae wr w.heap.size 172 (BH .u32 (l.length+1) fun j=>if j<k then(GL (fun i=>l.getD i 0) (fun i=>Z.getD i 0) j:Int)else 0)/\Below w.heap.size w wr) (fun _ i _=>l.length-(intOf i).toNat)
  .exact⟨0,Aa,rfl,rfl,Ae.none (Ae.new rfl),DC⟩
  obtain⟨k,hk,rfl,rfl,Y,hb⟩:=hrel;have U:=Mc (f:=fun i=>l.getD i 0) (g:=fun i=>Z.getD i 0) (fun i=>getD_lt H.o.small i) (fun i=>getD_lt I.o.small i) k
  have R:=Y.IU (show k<l.length+1 by omega)
  have O:=Y.thaw k
  have V:=zz (show Fz (fun i=>l.getD i 0) (fun i=>Z.getD i 0) (k+1)=(l.getD k 0+Z.getD k 0+Fz (fun i=>l.getD i 0) (fun i=>Z.getD i 0) k)/4294967296 from rfl)
  have T:=zz (show GL (fun i=>l.getD i 0) (fun i=>Z.getD i 0) k=(l.getD k 0+Z.getD k 0+Fz (fun i=>l.getD i 0) (fun i=>Z.getD i 0) k)%4294967296 from rfl)
  by_cases L:k<l.length
  .obtain⟨b,o,rfl,qU,N⟩:=(H.o.keep (w':=wr) (fun b o F=>BF hb b o Aa)).at_ L;have q:=getD_lt H.o.small k;have m:(k:Int)<(l.length:Int):=Aa
   by_cases M:k<Z.length
   .obtain⟨b',o',rfl,d,C⟩:=(I.o.keep (w':=wr) (fun b o F=>BF hb b o Aa)).at_ M;have hy:=getD_lt I.o.small k;generalize l.getD k 0=x at N q V T;generalize Z.getD k 0=y at C hy V T;generalize X:Fz (fun i=>l.getD i 0) (fun i=>Z.getD i 0) k=c at U V T;have HC:=zz X;clear X;go_wp2_with fail
    exact⟨⟨k+1,Aa,BG,by rw[V.o];go_num,Y.upto (by rw[T.o];go_num),hb.setCell Nr _⟩,by simp[intOf]<;>omega⟩
   have hy:=zz (Dg (show Z.length<=k by omega))
   have qR:¬(k:Int)<(Z.length:Int):=Aa;generalize l.getD k 0=x at N q V T;rw[hy.o]at V T;generalize X:Fz (fun i=>l.getD i 0) (fun i=>Z.getD i 0) k=c at U V T;have HC:=zz X;clear X;go_wp2_with fail
   exact⟨⟨k+1,Aa,BG,by rw[V.o];go_num,Y.upto (by rw[T.o];go_num),hb.setCell Nr _⟩,by simp[intOf]<;>omega⟩
  obtain⟨E,u⟩:=YW H.o.small I.o.small (show Z.length<=l.length by omega)
  have J:k=l.length:=Aa;rw[J]at R O Y U ⊢;have HV:=zz u;generalize Fz (fun i=>l.getD i 0) (fun i=>Z.getD i 0) l.length=ce at E U ⊢;have HE:=zz E;clear V T E u J L;go_wp2_with fail;have W:=Ae.all (Y.upto (v:=(ce:Nat)) (by rw[HE.o]));have D:=hb.setCell (p:=⟨w.heap.size,l.length,none⟩) Nr (.int .u32 (ce:Nat));have HW:=zz (ES W Aa (fun i _=>Nat.mod_lt _ Aa));have hT:=FK _ _ _ _ _ HW.o;rw[List.length_map,List.length_range]at hT;refine hT.mono ?_;rintro e w' ⟨s,rfl⟩;obtain⟨A,c,l1,rfl,h2⟩:=Dc (n:=val l+val Z) HW.o (by have:=W.lt;omega) D (by rw[GK];exact HV.o) s;have H2:=zz h2;clear h2 s;go_wp2_with fail
  go_ret
  exact⟨A,c,l1,rfl,H2.o⟩
 have qQ:¬(l.length:Int)<(Z.length:Int):=Aa;have H:=zz h;have I:=zz z;clear h z
 go_in
 go_wp2_with(refine wpList_make_row rfl _ _ _ rfl Ig (l.length+1) rfl rfl BG BG Aa Aa ?_)
 go_loopw[6,7] (fun c i wr=>∃k:Nat,k<=l.length/\i=.int .i64 k/\c=.int .u64 (Fz (fun i=>l.getD i 0) (fun i=>Z.getD i 0) k:Nat)/\Ae wr w.heap.size 172 (BH .u32 (l.length+1) fun j=>if j<k then(GL (fun i=>l.getD i 0) (fun i=>Z.getD i 0) j:Int)else 0)/\Below w.heap.size w wr) (fun _ i _=>l.length-(intOf i).toNat)
 .exact⟨0,Aa,rfl,rfl,Ae.none (Ae.new rfl),DC⟩
 obtain⟨k,hk,rfl,rfl,Y,hb⟩:=hrel;have U:=Mc (f:=fun i=>l.getD i 0) (g:=fun i=>Z.getD i 0) (fun i=>getD_lt H.o.small i) (fun i=>getD_lt I.o.small i) k
 have R:=Y.IU (show k<l.length+1 by omega)
 have O:=Y.thaw k
 have V:=zz (show Fz (fun i=>l.getD i 0) (fun i=>Z.getD i 0) (k+1)=(l.getD k 0+Z.getD k 0+Fz (fun i=>l.getD i 0) (fun i=>Z.getD i 0) k)/4294967296 from rfl)
 have T:=zz (show GL (fun i=>l.getD i 0) (fun i=>Z.getD i 0) k=(l.getD k 0+Z.getD k 0+Fz (fun i=>l.getD i 0) (fun i=>Z.getD i 0) k)%4294967296 from rfl)
 by_cases L:k<l.length
 .obtain⟨b,o,rfl,qU,N⟩:=(H.o.keep (w':=wr) (fun b o F=>BF hb b o Aa)).at_ L;have q:=getD_lt H.o.small k;have m:(k:Int)<(l.length:Int):=Aa
  by_cases M:k<Z.length
  .obtain⟨b',o',rfl,d,C⟩:=(I.o.keep (w':=wr) (fun b o F=>BF hb b o Aa)).at_ M;have hy:=getD_lt I.o.small k;generalize l.getD k 0=x at N q V T;generalize Z.getD k 0=y at C hy V T;generalize X:Fz (fun i=>l.getD i 0) (fun i=>Z.getD i 0) k=c at U V T;have HC:=zz X;clear X;go_wp2_with fail
   exact⟨⟨k+1,Aa,BG,by rw[V.o];go_num,Y.upto (by rw[T.o];go_num),hb.setCell Nr _⟩,by simp[intOf]<;>omega⟩
  have hy:=zz (Dg (show Z.length<=k by omega))
  have qR:¬(k:Int)<(Z.length:Int):=Aa;generalize l.getD k 0=x at N q V T;rw[hy.o]at V T;generalize X:Fz (fun i=>l.getD i 0) (fun i=>Z.getD i 0) k=c at U V T;have HC:=zz X;clear X;go_wp2_with fail
  exact⟨⟨k+1,Aa,BG,by rw[V.o];go_num,Y.upto (by rw[T.o];go_num),hb.setCell Nr _⟩,by simp[intOf]<;>omega⟩
 obtain⟨E,u⟩:=YW H.o.small I.o.small (show Z.length<=l.length by omega)
 have J:k=l.length:=Aa;rw[J]at R O Y U ⊢;have HV:=zz u;generalize Fz (fun i=>l.getD i 0) (fun i=>Z.getD i 0) l.length=ce at E U ⊢;have HE:=zz E;clear V T E u J L;go_wp2_with fail;have W:=Ae.all (Y.upto (v:=(ce:Nat)) (by rw[HE.o]));have D:=hb.setCell (p:=⟨w.heap.size,l.length,none⟩) Nr (.int .u32 (ce:Nat));have HW:=zz (ES W Aa (fun i _=>Nat.mod_lt _ Aa));have hT:=FK _ _ _ _ _ HW.o;rw[List.length_map,List.length_range]at hT;refine hT.mono ?_;rintro e w' ⟨s,rfl⟩;obtain⟨A,c,l1,rfl,h2⟩:=Dc (n:=val l+val Z) HW.o (by have:=W.lt;omega) D (by rw[GK];exact HV.o) s;have H2:=zz h2;clear h2 s;go_wp2_with fail
 go_ret
 exact⟨A,c,l1,rfl,H2.o⟩
def kU{l l':List Nat}(V:small l)(Y:small l')(h:l'.length<=l.length)(U:val l'<=val l):
  AB (FT (fun i=>l.getD i 0) (fun i=>l'.getD i 0)) l.length=val l-val l':=by
 have Z:=TI (f:=fun i=>l.getD i 0) (g:=fun i=>l'.getD i 0) (fun i=>getD_lt Y i) l.length;rw[FY Nr,FY h]at Z;have T:=Fw (f:=FT (fun i=>l.getD i 0) (fun i=>l'.getD i 0)) (n:=l.length) (fun i _=>Kg (fun i=>getD_lt V i) i);have R:=M9 (fun i=>l.getD i 0) (fun i=>l'.getD i 0) l.length
 rcases Nat.eq_zero_or_pos (En (fun i=>l.getD i 0) (fun i=>l'.getD i 0) l.length)with X|X
 . rw[X]at Z;omega
 have W:En (fun i=>l.getD i 0) (fun i=>l'.getD i 0) l.length=1:=Aa;rw[W]at Z;omega
def ZI(A r:Option Addr)(c p:Nat)(l Z:List Nat)(B:Nat)(w:World)(hB:B<=w.heap.size)(h:Wd w B A c l)(E:Wd w B r p Z)(qQ:l.length<=1000000)(M:Z.length<=l.length)(u:val Z<=val l):
  Calls prog 134 #[.slice A l.length c,.slice r Z.length p] w fun e w'=>Q0 w w' (val l-val Z) e:=by
 have H:=zz h;have m:=zz E;have HV:=zz (kU h.small E.small M u);clear h E u
 go_in
 go_wp2_with(refine wpList_make_row rfl _ _ _ rfl Ig l.length rfl rfl BG BG Aa Aa ?_)
 go_loopw[6,7] (fun c i wr=>∃k:Nat,k<=l.length/\i=.int .i64 k/\c=.int .u64 (En (fun i=>l.getD i 0) (fun i=>Z.getD i 0) k:Nat)/\Ae wr w.heap.size 172 (BH .u32 l.length fun j=>if j<k then(FT (fun i=>l.getD i 0) (fun i=>Z.getD i 0) j:Int)else 0)/\Below w.heap.size w wr) (fun _ i _=>l.length-(intOf i).toNat)
 .exact⟨0,Aa,rfl,rfl,Ae.none (Ae.new rfl),DC⟩
 obtain⟨k,hk,rfl,rfl,Y,hb⟩:=hrel;have T:=M9 (fun i=>l.getD i 0) (fun i=>Z.getD i 0) k;have O:=Y.thaw k
 by_cases R:k<l.length
 .have G:=Y.IU R
  have V:=zz (show En (fun i=>l.getD i 0) (fun i=>Z.getD i 0) (k+1)=if l.getD k 0<Z.getD k 0+En (fun i=>l.getD i 0) (fun i=>Z.getD i 0) k then 1 else 0 from rfl)
  have U:=zz (show FT (fun i=>l.getD i 0) (fun i=>Z.getD i 0) k=if l.getD k 0<Z.getD k 0+En (fun i=>l.getD i 0) (fun i=>Z.getD i 0) k then l.getD k 0+4294967296-(Z.getD k 0+En (fun i=>l.getD i 0) (fun i=>Z.getD i 0) k)else l.getD k 0-(Z.getD k 0+En (fun i=>l.getD i 0) (fun i=>Z.getD i 0) k)from rfl)
  obtain⟨b,o,rfl,d,N⟩:=(H.o.keep (w':=wr) (fun b o I=>BF hb b o Aa)).at_ R;have z:=getD_lt H.o.small k;have v:(k:Int)<(l.length:Int):=Aa
  by_cases L:k<Z.length
  .obtain⟨b',o',rfl,g,F⟩:=(m.o.keep (w':=wr) (fun b o I=>BF hb b o Aa)).at_ L;have hy:=getD_lt m.o.small k;generalize l.getD k 0=x at N z V U;generalize Z.getD k 0=y at F hy V U;generalize X:En (fun i=>l.getD i 0) (fun i=>Z.getD i 0) k=c at T V U;have HC:=zz X;clear X;go_wp2_with fail
   refine⟨⟨k+1,Aa,BG,by rw[V.o];simp only[Cz];split<;>go_num,Y.upto (by rw[U.o];simp only[Cz];split<;>go_num),hb.setCell Nr _⟩,by simp[intOf]<;>omega⟩
  have hy:=zz (Dg (show Z.length<=k by omega))
  have s:¬(k:Int)<(Z.length:Int):=Aa;generalize l.getD k 0=x at N z V U;rw[hy.o]at V U;generalize X:En (fun i=>l.getD i 0) (fun i=>Z.getD i 0) k=c at T V U;have HC:=zz X;clear X;go_wp2_with fail
  refine⟨⟨k+1,Aa,BG,by rw[V.o];simp only[Cz];split<;>go_num,Y.upto (by rw[U.o];simp only[Cz];split<;>go_num),hb.setCell Nr _⟩,by simp[intOf]<;>omega⟩
 have J:k=l.length:=Aa;rw[J]at Y ⊢;have W:=Y.all;have hg:=W.lt;have q:=zz (ES W Aa (fun i _=>Kg (fun i=>getD_lt H.o.small i) i));have D:=FK _ _ _ _ _ q.o;rw[List.length_map,List.length_range]at D;have HT:=zz D;clear J R O D T;generalize En (fun i=>l.getD i 0) (fun i=>Z.getD i 0) l.length=ce;go_wp2_with fail;refine HT.o.mono ?_;rintro e w' ⟨C,rfl⟩;obtain⟨A,c,f,rfl,t⟩:=Dc (n:=val l-val Z) q.o Aa hb (by rw[GK];exact HV.o) C;have H2:=zz t;clear t C;go_wp2_with fail
 go_ret
 exact⟨A,c,f,rfl,H2.o⟩
end BigW
namespace BigW
open Go.RowKit Mem BigLaw
def Oz(h v s:Nat)(Z:h<2 ^ s)(Y:v%2 ^ s=0):h|||v=v+h:=by
 have e:v=2 ^ s*(v/2 ^ s):=by have:=Nat.div_add_mod v (2 ^ s);omega
 rw[e,Nat.or_comm,←Nat.two_pow_add_eq_or_of_lt Z]
def IZ(l:List Nat)(s w k j:Nat):Nat:=if j<k+w then(if j<w then 0 else Mr (fun i=>l.getD i 0) s (j-w))else if j=k+w then FN (fun i=>l.getD i 0) s k else 0
def Zt(l:List Nat)(s w k j:Nat):Nat:=if j<k+w+1 then(if j<w then 0 else Mr (fun i=>l.getD i 0) s (j-w))else 0
def dN(l:List Nat)(s w k n:Nat):(BH .u32 n fun j=>(IZ l s w k j:Int)).setIfInBounds (k+w) (.int .u32 (Mr (fun i=>l.getD i 0) s k:Nat))=BH .u32 n fun j=>(Zt l s w k j:Int):=by
 refine Es fun i hi=>?_
 unfold Zt IZ
 by_cases e:i=k+w
 .subst e
  rw[Ao rfl,Ao Aa,Aj Aa,show k+w-w=k by omega]
 rw[Aj e]
 by_cases Z:i<k+w
 . rw[Ao Z,Ao Aa]
 rw[Aj Z,Aj Aa,Aj e]
def jH(l:List Nat)(s w k n:Nat):(BH .u32 n fun j=>(Zt l s w k j:Int)).setIfInBounds (k+w+1) (.int .u32 (FN (fun i=>l.getD i 0) s (k+1):Nat))=BH .u32 n fun j=>(IZ l s w (k+1) j:Int):=by
 refine Es fun i hi=>?_
 unfold Zt IZ
 rw[show k+1+w=k+w+1 by omega]
 by_cases e:i=k+w+1
 .subst e;rw[Ao rfl,Aj Aa,Ao rfl]
 rw[Aj e,Aj e]
def jV(l:List Nat)(s w:Nat):AB (IZ l s w l.length) (l.length+w+1)=val l*2 ^ (32*w+s):=by
 have Z:Mr (fun i=>l.getD i 0) s l.length=FN (fun i=>l.getD i 0) s l.length:=by
  rw[M7,Dg Nr];simp
 have W:AB (IZ l s w l.length) (l.length+w+1)=AB (fun j=>if j<w then 0 else Mr (fun i=>l.getD i 0) s (j-w)) (w+(l.length+1)):=by
  rw[show l.length+w+1=w+(l.length+1)by omega]
  refine CY fun i hi=>?_
  unfold IZ
  by_cases X:i<l.length+w
  . rw[Ao X]
  rw[Aj X,Ao Aa,Aj Aa,show i-w=l.length by omega,Z]
 have Y:=Wn (fun i=>l.getD i 0) s l.length;rw[FY Nr]at Y;rw[W,QJ,EI,Z,Y,Nat.pow_add,Jz,Nat.mul_assoc,Nat.mul_comm (2 ^ s)]
def Qo(A:Option Addr)(c:Nat)(l:List Nat)(n Y s:Nat)(B:Nat)(w:World)(hB:B<=w.heap.size)(h:Wd w B A c l)(qW:l.length<=1000000)(hn:n=32*Y+s)(J:s<32)(hw:Y<=1000000):
  Calls prog 177 #[.slice A l.length c,.int .u64 (n:Int)] w fun e w'=>Q0 w w' (val l*2 ^ n) e:=by
 have hq:(n:Int)/32=(Y:Int):=Aa;have hr:(n:Int)%32=(s:Int):=Aa;have HN:=zz hn;have H:=zz h;clear hn h
 by_cases G:l.length=0
 .have t:((l.length:Int)==0)=true:=by simp[G]
  have HZ:=zz (show val l=0 by rw[List.eq_nil_of_length_eq_zero G];rfl)
  clear G
  go_in
  go_wp2_with fail
  go_ret
  exact⟨none,0,[],rfl,Wd.nil _ _,fun h=>by simp at h,by rw[HZ.o];simp[Np],Below.refl _ _⟩
 have t:((l.length:Int)==0)=false:=by rw[beq_eq_false_iff_ne];omega
 clear G
 have p:n<=32000031:=by have:=HN.o;omega
 go_in
 go_wp2_with(refine wpList_make_row rfl _ _ _ rfl Ig (l.length+Y+1) rfl rfl BG BG Aa Aa ?_)
 go_loopw[8] (fun i wr=>∃k:Nat,k<=l.length/\i=.int .i64 k/\Ae wr w.heap.size 172 (BH .u32 (l.length+Y+1) fun j=>(IZ l s Y k j:Int))/\Below w.heap.size w wr) (fun i _=>l.length-(intOf i).toNat)
 .refine⟨0,Aa,rfl,?_,DC⟩
  rw[EA (f:=fun j=>(IZ l s Y 0 j:Int)) (g:=fun _=>0) (fun i hi=>by unfold IZ;(repeat' split)<;>first|rfl|omega)]
  exact Ae.new rfl
 obtain⟨k,hk,rfl,Z,hb⟩:=hrel
 by_cases I:k<l.length
 .obtain⟨b,o,rfl,qU,u⟩:=(H.o.keep (w':=wr) (fun b o qV=>BF hb b o Aa)).at_ I;have hx:=getD_lt H.o.small k;have qR:(k:Int)<(l.length:Int):=Aa;have D:=Z.cell (k+Y);rw[Cu _ _ _ _ Aa]at D
  have z:IZ l s Y k (k+Y)=FN (fun i=>l.getD i 0) s k:=by unfold IZ;rw[Aj Aa,Ao rfl]
  rw[z]at D;have c2:=Z.cell (k+Y+1);rw[Cu _ _ _ _ Aa]at c2
  have C:IZ l s Y k (k+Y+1)=0:=by unfold IZ;rw[Aj Aa,Aj Aa]
  rw[C]at c2;have t1:=Z.thaw (k+Y);have t2:=Z.thaw (k+Y+1);have O:=Ou J (fun i=>getD_lt H.o.small i) k;have X:=Vs (l.getD k 0) s J;have E:=VT (l.getD k 0) s J
  have R:=zz (show Mr (fun i=>l.getD i 0) s k=l.getD k 0*2 ^ s%4294967296+FN (fun i=>l.getD i 0) s k from M7 _ _ _)
  have y:=zz (show FN (fun i=>l.getD i 0) s (k+1)=l.getD k 0*2 ^ s/4294967296 from rfl)
  have V:((l.getD k 0:Nat):Int)*2 ^ s=((l.getD k 0*2 ^ s:Nat):Int):=by push_cast;rfl
  have L:l.getD k 0*2 ^ s<18446744073709551616:=by
   have:l.getD k 0*2 ^ s<4294967296*2 ^ s:=Nat.mul_lt_mul_of_pos_right hx (Nat.two_pow_pos s);have F:2 ^ s<=2 ^ 32:=Nat.pow_le_pow_right Aa Aa;omega
  generalize m:l.getD k 0*2 ^ s=v at V L R y E X;have hor:=Oz (FN (fun i=>l.getD i 0) s k) (v%4294967296) s O E
  have W:bits .or .u32 ((FN (fun i=>l.getD i 0) s k:Nat):Int) ((v:Int)%4294967296)=((v%4294967296+FN (fun i=>l.getD i 0) s k:Nat):Int):=by
   have:=u32_or_nat (FN (fun i=>l.getD i 0) s k) (v%4294967296) (by have:2 ^ s<=2 ^ 32:=Nat.pow_le_pow_right Aa Aa;omega) Aa;rw[hor]at this
   simpa using this
  have T:bits .or .u32 0 ((v:Int)/4294967296)=((v/4294967296:Nat):Int):=by
   have:=u32_or_nat 0 (v/4294967296) Aa Aa
   simpa using this
  generalize l.getD k 0=x at u hx V m
  have qQ:IntKind.u64.wrap ((x:Int)*2 ^ s)=(v:Int):=by rw[V,Cz];omega
  rw[←R.o]at W;rw[←y.o]at T;clear V E X hor O m R y;have HK:=zz (And.intro z C);clear z C;generalize r:FN (fun i=>l.getD i 0) s k=h0 at D W;generalize U:FN (fun i=>l.getD i 0) s (k+1)=h1 at T;generalize M:Mr (fun i=>l.getD i 0) s k=d at W;have H1:=zz U;have R:=zz M;clear r U M;go_wp2_with fail
  refine⟨⟨k+1,Aa,BG,?_,(hb.setCell Nr _).setCell Nr _⟩,by simp[intOf]<;>omega⟩
  have:=(Z.set (k+Y) (.int .u32 d)).set (k+Y+1) (.int .u32 h1);rw[←R.o,dN,←H1.o,jH]at this;rw[←R.o,←H1.o];exact this
 have N:k=l.length:=Aa;rw[N]at Z ⊢;have hg:=Z.lt
 have HW:=zz (ES Z Aa (fun i _=>by
  unfold IZ
  have h1:=jd (f:=fun i=>l.getD i 0) J (fun i=>getD_lt H.o.small i) (i-Y);have F:=Ou J (fun i=>getD_lt H.o.small i) l.length;have h3:2 ^ s<=2 ^ 32:=Nat.pow_le_pow_right Aa Aa
  (repeat' split)<;>omega))
 have q:=FK _ _ _ _ _ HW.o;rw[List.length_map,List.length_range]at q;have HT:=zz q;clear N I q;go_wp2_with fail;refine HT.o.mono ?_;rintro e w' ⟨ht,rfl⟩;obtain⟨A,c,l1,rfl,F⟩:=Dc (n:=val l*2 ^ n) HW.o Aa hb (by rw[GK,jV,HN.o]) ht;have H2:=zz F;clear F ht;go_wp2_with fail
 go_ret
 exact⟨A,c,l1,rfl,H2.o⟩
def P9(A:Option Addr)(c:Nat)(l:List Nat)(B:Nat)(w:World)(h:Wd w B A c l)(N:DY l)(R:l.length<=1000000):
  Calls prog 186 #[.slice A l.length c] w fun e w'=>(∃n:Nat,e=.returned (.int .i64 n)/\Jq (val l) n/\n<=32*l.length)/\w'=w:=by
 by_cases T:l.length=0
 .have W:((l.length:Int)==0)=true:=by simp[T]
  have z:=zz (show val l=0 by rw[List.eq_nil_of_length_eq_zero T];rfl)
  clear T
  go_in
  go_wp2_with fail
  go_ret
  exact⟨⟨0,rfl,by rw[z.o];exact⟨fun _=>rfl,fun h=>by omega⟩,Aa⟩,rfl⟩
 have W:((l.length:Int)==0)=false:=by rw[beq_eq_false_iff_ne];omega
 obtain⟨q,hq⟩:∃q,l.length=q+1:=⟨l.length-1,Aa⟩
 obtain⟨b,o,rfl,F,O⟩:=h.at_ (show q<l.length by omega)
 have L:=getD_lt h.small q
 have V:l.getD q 0≠0:=by have:=N Aa;rwa[hq,Nat.add_sub_cancel]at this
 have J:=zz (show ∀b,Jq (l.getD q 0) b->Jq (val l) (q*32+b)from fun b hb=>by
  have:=aL (f:=fun i=>l.getD i 0) (n:=q) (fun i=>getD_lt h.small i) V hb;rw[←hq,FY Nr]at this
  exact this)
 generalize l.getD q 0=x at O L V J;have j:(l.length:Int)=(q:Int)+1:=Aa;have E:q<=1000000:=Aa;have k:=zz V;have v:=zz hq;clear h N T V hq R;rw[v.o]at W ⊢
 go_in
 go_wp2_with fail
 go_loop[3,4] (fun n t=>∃m r:Nat,m<=32/\r<2 ^ (32-m)/\n=.int .i64 m/\t=.int .u32 r/\∀b,Jq r b->Jq x (m+b)) (fun _ t=>(intOf t).toNat)
 .exact⟨0,x,Aa,L,rfl,rfl,fun b hb=>by rwa[Nat.zero_add]⟩
 obtain⟨m,r,p,U,rfl,rfl,H⟩:=hrel;have M:=zz H;have u:=zz U
 have G:r<4294967296:=Nat.lt_of_lt_of_le U (Nat.pow_le_pow_right (n:=2) Aa (show 32-m<=32 by omega))
 have Y:r≠0->m<=31:=fun h=>by
  rcases Nat.lt_or_ge m 32 with y|y
  . omega
  have:32-m=0:=Aa;rw[this]at U;omega
 clear H U
 by_cases Z:r=0
 .subst Z;have I:=M.o 0 ⟨fun _=>rfl,fun h=>by omega⟩;have D:=zz (J.o _ I);clear I Y;go_wp2_with fail
  go_ret
  exact⟨⟨q*32+m,by congr 1,D.o,Aa⟩,rfl⟩
 have C:((r:Int)!=0)=true:=Ec;have s:=Y Z;have X:=zz Z;clear Z Y;go_wp2_with fail;refine⟨⟨m+1,r/2,Aa,?_,BG,BG,fun b hb=>?_⟩,by simp[intOf];have:=X.o;omega⟩
 .have:=u.o
  rw[show 32-m=(32-(m+1))+1 by omega,Nat.pow_succ]at this
  omega
 have:=M.o _ (QE hb X.o)
 rwa[show m+1+b=m+(b+1)by omega]
def Tw{l:List Nat}(h:l.length<=2):val l=l.getD 0 0+l.getD 1 0*4294967296:=by
 rw[←FY h]
 show 0+l.getD 0 0*pw 0+l.getD 1 0*pw 1=_
 rw[Fu,KA];omega
def gV(x y:Nat)(Z:x<4294967296)(hy:y<4294967296):bits .or .u64 (x:Int) ((y:Int)*4294967296)=(x:Int)+(y:Int)*4294967296:=by
 have h:=u64_or_nat x (y*4294967296) Aa Aa;rw[Oz x (y*4294967296) 32 Aa Aa]at h;have e:((y*4294967296:Nat):Int)=(y:Int)*4294967296:=Aa;rw[e]at h;rw[h,Int.natCast_add,e];exact Int.add_comm _ _
def Sc(A:Option Addr)(c:Nat)(l:List Nat)(B:Nat)(w:World)(h:Wd w B A c l)(I:l.length<=2):
  Calls prog 184 #[.slice A l.length c] w fun e w'=>e=.returned (.int .u64 (val l:Nat))/\w'=w:=by
 have Z:=zz (Tw I)
 by_cases R:0<l.length
 .obtain⟨b,o,rfl,M,Y⟩:=h.at_ R;rw[Nat.add_zero]at Y;have W:=getD_lt h.small 0;have V:(0:Int)<(l.length:Int):=Aa
  by_cases O:1<l.length
  .obtain⟨b',H,e,_,U⟩:=h.at_ O
   injection e with e
   injection e with J N
   subst J N;have hy:=getD_lt h.small 1;have X:(1:Int)<(l.length:Int):=Aa;generalize l.getD 0 0=x at Y W Z;generalize l.getD 1 0=y at U hy Z;have hor:=gV x y W hy;clear h
   go_in
   go_wp2_with fail
   go_ret
   exact⟨by rw[Z.o];go_num,rfl⟩
  have X:¬(1:Int)<(l.length:Int):=Aa;have T:=zz (Dg (l:=l) (i:=1) Aa);generalize l.getD 0 0=x at Y W Z;rw[T.o]at Z;clear h O
  go_in
  go_wp2_with fail
  go_ret
  exact⟨by rw[Z.o];go_num,rfl⟩
 have V:¬(0:Int)<(l.length:Int):=Aa;have X:¬(1:Int)<(l.length:Int):=Aa;have L:=zz (Dg (l:=l) (i:=0) Aa);have T:=zz (Dg (l:=l) (i:=1) Aa);rw[L.o,T.o]at Z;clear h R
 go_in
 go_wp2_with fail
 go_ret
 exact⟨by rw[Z.o];go_num,rfl⟩
def bG{w:World}{base:Nat}{A:Option Addr}{c:Nat}{l:List Nat}(h:w.ownsRow base 172 1 (.slice A l.length c) l.length (Em l))(Y:small l):Wd w w.heap.size A c l:=by
 obtain⟨M,L,e,W,X,V,N,T⟩:=Ip h
 injection e with R O Z
 subst R Z;exact⟨W,X,fun U=>(V U).2,T,Y⟩
def NE(A:Option Addr)(c:Nat)(l:List Nat)(B:Nat)(w:World)(O:B<=w.heap.size)(h:Wd w B A c l)(T:l.length<=1000000):
  Calls prog 172 #[.slice A l.length c] w fun e w'=>∃W V,e=.returned (.slice W l.length V)/\Wd w' w'.heap.size W V l/\Below w.heap.size w w':=by
 have H:=zz h;clear h
 go_in
 go_wp2_with(at_builtin;refine Aq _ rfl _ _ _ rfl (base:=w.heap.size) Ig rfl (World.ownsRow_nil _ _ _ _) rfl (fun U=>⟨by have:=H.o.none_ U;have:=H.o.len;omega,H.o.none_ U⟩) H.o.rd (Pv l) GX Aa Nr ?_)
 intro W V w' U Z X;have R:=zz (bG Z H.o.small);have Y:=zz X;clear X Z;go_wp2_with fail
 go_ret
 exact⟨W,V,rfl,R.o,Y.o.os,Y.o.tape,Y.o.output,Y.o.size,fun g X=>Y.o.block g X (by simp[Value.ownBlock])⟩
end BigW
namespace BigW
open Go.RowKit Mem BigLaw
def Dz(w:World)(p:Nat):Prop:=∃s A n c,Ae w p 159 #[.bool s,.slice A n c]
def Cm(w:World)(p:Nat)(z:Int):Prop:=∃A c l,Ae w p 159 #[.bool (decide (z<0)),.slice A l.length c]/\Wd w w.heap.size A c l/\DY l/\val l=z.natAbs
def Cm.isInt{w:World}{p:Nat}{z:Int}(h:Cm w p z):Dz w p:=by
 obtain⟨A,c,l,h,_⟩:=h;exact⟨_,_,_,_,h⟩
def Dz.lt{w:World}{p:Nat}(h:Dz w p):p<w.heap.size:=by obtain⟨_,_,_,_,h⟩:=h;exact h.lt
def Cm.lt{w:World}{p:Nat}{z:Int}(h:Cm w p z):p<w.heap.size:=h.isInt.lt
def Dz.grown{w w':World}{p:Nat}{row:Option Nat}(h:Dz w p)(Z:w.grownBy w' row)(Y:some p≠row):Dz w' p:=by
 obtain⟨s,A,n,c,h⟩:=h;exact⟨s,A,n,c,h.grown Z Y⟩
def Dz.below{w w':World}{p:Nat}{B:Nat}(h:Dz w p)(hb:Below B w w')(Z:p<B):Dz w' p:=by
 obtain⟨s,A,n,c,h⟩:=h;exact⟨s,A,n,c,h.below hb Z⟩
def Dz.cell{w:World}{p:Nat}(h:Dz w p)(i:Nat)(z:Int): w.cell? ⟨p,i,none⟩≠some (.int .u32 z):=by
 obtain⟨s,A,n,c,h⟩:=h;rw[h.cell]
 match i with
 |0=>simp
 |1=>simp
 |i+2=>simp
def Wd.grown{w w':World}{B:Nat}{A:Option Addr}{c:Nat}{l:List Nat}{p:Nat}(h:Wd w B A c l)(T:B<=w.heap.size)(hi:Dz w p)(W:w.grownBy w' (some p)):Wd w' B A c l:=by
 refine⟨h.len,h.cap,h.none_,⟨h.rd.1,fun X=>?_⟩,h.small⟩;obtain⟨b,o,e,hb,Y⟩:=h.rd.2 X;refine⟨b,o,e,hb,fun j u U=>?_⟩;rw[←Y j u U];refine World.cell?_of_block (W.block b Aa ?_);intro Z
 injection Z with Z
 subst Z;have V:=Y 0 _ (Od X);exact hi.cell _ _ V
def Cm.grown{w w':World}{p q:Nat}{z:Int}(h:Cm w p z)(hi:Dz w q)(Z:w.grownBy w' (some q))(W:p≠q):Cm w' p z:=by
 obtain⟨A,c,l,X,Y,V⟩:=h;exact⟨A,c,l,X.grown Z (fun e=>W (by injection e)),(Y.grown Nr hi Z).more Z.size,V⟩
def Cm.below{w w':World}{p:Nat}{z:Int}(h:Cm w p z)(hb:Below w.heap.size w w'):Cm w' p z:=by
 obtain⟨A,c,l,Z,Y,X⟩:=h;exact⟨A,c,l,Z.below hb Z.lt,(Y.below hb).more hb.size,X⟩
def Cm.alloc{w:World}{p:Nat}{z:Int}(h:Cm w p z)(o:Obj):Cm (w.alloc o) p z:=h.below (DC)
def Ee(w:World)(p i:Nat)(u:Value):w.grownBy (w.setCell ⟨p,i,none⟩ u) (some p):=
 have hb:Below p w (w.setCell ⟨p,i,none⟩ u):=(Below.refl p w).setCell Nr u
 ⟨hb.os,hb.tape,hb.output,hb.size,fun k Y Z=>Below.heap_setCell w ⟨p,i,none⟩ u k (fun e=>Z (by rw[e]))⟩
def below_grown{B:Nat}{a w w':World}{row:Option Nat}(h:Below B a w)(W:B<=a.heap.size)(Z:w.grownBy w' row)(X:∀g,row=some g->B<=g):Below B a w':=by
 refine⟨Z.os.trans h.os,Z.tape.trans h.tape,Z.output.trans h.output,Nat.le_trans h.size Z.size,fun g Y=>?_⟩;rw[Z.block g (by have:=h.size;omega) (fun e=>by have:=X g e.symm;omega)];exact h.block g Y
def CJ{w w':World}{row:Option Nat}(hb:Below w.heap.size w w'):w.grownBy w' row:=⟨hb.os,hb.tape,hb.output,hb.size,fun g Z _=>hb.block g Z⟩
def fV(p:Nat)(s:Bool)(A:Option Addr)(n c:Nat)(w:World)(h:Dz w p):
  Calls prog 110 #[.pointer (some ⟨p,0,none⟩),.bool s,.slice A n c] w fun e w'=>e=.returned (.pointer (some ⟨p,0,none⟩))/\Ae w' p 159 #[.bool (s&&decide (0<n)),.slice A n c]/\w.grownBy w' (some p):=by
 obtain⟨R,O,N,W,h⟩:=h;have W:=h.cell 0;have V:=h.cell 1;have M:=h.thaw 0;have L:=h.thaw 1;simp only[List.getElem?_toArray,List.getElem?_cons_zero,List.getElem?_cons_succ]at W V;have Z:=zz h;clear h
 by_cases Y:s=true
 .subst Y
  by_cases X:0<n
  .have T:(0:Int)<(n:Int):=Aa;have U:=zz X;clear X
   go_in
   go_wp2_with fail
   go_ret
   refine⟨rfl,?_,(Ee _ _ _ _).trans (Ee _ _ _ _)⟩;have:=(Z.o.set 1 (.slice A n c)).set 0 (.bool true)
   simpa[U.o] using this
  obtain rfl:n=0:=Aa;clear X
  go_in
  go_wp2_with fail
  go_ret
  refine⟨rfl,?_,(Ee _ _ _ _).trans (Ee _ _ _ _)⟩;have:=(Z.o.set 1 (.slice A 0 c)).set 0 (.bool false)
  simpa using this
 obtain rfl:s=false:=by simpa using Y
 clear Y
 go_in
 go_wp2_with fail
 go_ret
 refine⟨rfl,?_,(Ee _ _ _ _).trans (Ee _ _ _ _)⟩;have:=(Z.o.set 1 (.slice A n c)).set 0 (.bool false)
 simpa using this
def FZ(p:Nat)(s:Bool)(A:Option Addr)(l:List Nat)(c:Nat)(w:World)(z:Int)(h:Dz w p)(X:Wd w w.heap.size A c l)(Y:DY l)(W:val l=z.natAbs)(V:(s&&decide (0<l.length))=decide (z<0)):
  Calls prog 110 #[.pointer (some ⟨p,0,none⟩),.bool s,.slice A l.length c] w fun e w'=>e=.returned (.pointer (some ⟨p,0,none⟩))/\Cm w' p z/\w.grownBy w' (some p):=by
 refine(fV p s A l.length c w h).mono ?_;rintro e w' ⟨rfl,hb,Z⟩;rw[V]at hb;exact⟨rfl,⟨A,c,l,hb,(X.grown Nr h Z).more Z.size,Y,W⟩,Z⟩
def Ij{l:List Nat}{z:Int}(X:DY l)(Y:val l=z.natAbs)(s:Bool)(W:z≠0->s=decide (z<0)):(s&&decide (0<l.length))=decide (z<0):=by
 by_cases Z:z=0
 .subst Z;rw[(val_zero X).1 (by simpa using Y)]
  simp
 rw[←W Z]
 have:0<l.length:=by
  rcases Nat.eq_zero_or_pos l.length with h|h
  . rw[List.eq_nil_of_length_eq_zero h,Np]at Y;omega
  exact h
 simp[this]
def aS(p:Nat)(x:Int)(w:World)(L: -9223372036854775808<=x/\x<=9223372036854775807)(h:Dz w p):
  Calls prog 131 #[.pointer (some ⟨p,0,none⟩),.int .i64 x] w fun e w'=>e=.returned (.pointer (some ⟨p,0,none⟩))/\Cm w' p x/\w.grownBy w' (some p):=by
 obtain⟨I,H⟩:=L;have U:=zz h;clear h
 by_cases J:x<0
 .obtain⟨m,E⟩:∃m:Nat,-x=(m:Int):=⟨(-x).toNat,Aa⟩
  have F:IntKind.u64.wrap (-IntKind.u64.wrap x)=(m:Int):=by rw[Cz,Cz];omega
  go_in
  go_wp2_with fail;refine(LX m Aa w).mono ?_;rintro e N ⟨A,c,l,rfl,Y,Z,R,hb⟩;have M:=zz Y;have W:=zz Z
  have X:=zz (show val l=x.natAbs by omega)
  clear Y Z R;go_wp2_with fail;refine(FZ p true A l c N x (U.o.below hb U.o.lt) M.o W.o X.o (Ij W.o X.o true (fun _=>by simp[J]))).mono ?_;rintro e G ⟨rfl,V,T⟩;have O:=zz V;clear V;go_wp2_with fail
  go_ret
  exact⟨rfl,O.o,(CJ hb).trans T⟩
 obtain⟨m,rfl⟩:=Int.eq_ofNat_of_zero_le (show 0<=x by omega)
 go_in
 go_wp2_with fail;refine(LX m Aa w).mono ?_;rintro e N ⟨A,c,l,rfl,Y,Z,R,hb⟩;have M:=zz Y;have W:=zz Z
 have X:=zz (show val l=((m:Nat):Int).natAbs by omega)
 clear Y Z R;go_wp2_with fail;refine(FZ p false A l c N (m:Int) (U.o.below hb U.o.lt) M.o W.o X.o (Ij W.o X.o false (fun _=>by simp))).mono ?_;rintro e G ⟨rfl,V,T⟩;have O:=zz V;clear V;go_wp2_with fail
 go_ret
 exact⟨rfl,O.o,(CJ hb).trans T⟩
def EN(w:World):Dz (w.alloc (.cells aK 159)) w.heap.size:=⟨false,none,0,0,Ae.new rfl⟩
def Uv(w w':World)(x:Int)(e:Ending):Prop:=∃p,e=.returned (.pointer (some ⟨p,0,none⟩))/\w.heap.size<=p/\Cm w' p x/\Below w.heap.size w w'
def MQ(x:Int)(w:World)(Z: -9223372036854775808<=x/\x<=9223372036854775807):
  Calls prog 109 #[.int .i64 x] w fun e w'=>Uv w w' x e:=by
 have T:=zz (EN w);have V:=zz Z;clear Z
 go_in
 go_wp2_with fail;refine(aS w.heap.size x _ V.o T.o).mono ?_;rintro e R ⟨rfl,X,Y⟩;have W:=zz X;have U:=zz Y;clear X Y;go_wp2_with fail
 go_ret
 exact⟨w.heap.size,rfl,Nat.le_refl _,W.o,below_grown (DC) Nr U.o (fun g e=>by injection e with e;omega)⟩
def EO(x:Int)(w:World)(Z: -9223372036854775808<=x/\x<=9223372036854775807):
  Calls prog 83 #[.int .i64 x] w fun e w'=>Uv w w' x e:=by
 have V:=zz Z;obtain⟨X,T⟩:=Z
 go_in
 go_wp2_with fail;refine(MQ x w V.o).mono ?_;rintro e R ⟨p,rfl,U,Y,hb⟩;have W:=zz Y;clear Y;go_wp2_with fail
 go_ret
 exact⟨p,rfl,U,W.o,hb⟩
end BigW
end Go.Proofs.YtjobajeggllmiaaGreat
