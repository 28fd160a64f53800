import Derived.Test.YtjobajeggllmiaaGreatPc0
import Derived.Test.YtjobajeggllmiaaGreatPc11
set_option linter.all false
set_option maxHeartbeats 100000000
set_option maxRecDepth 100000
namespace Go.Proofs.YtjobajeggllmiaaGreat
open Ms _root_.Go.Proofs.Tryz
namespace MajLaw
def JH(s:Nat×Int)(v:Int):Nat×Int:=if s.1=0 then(1,v)else if v=s.2 then(s.1+1,s.2)else(s.1-1,s.2)
def left(l:List Int):Nat×Int:=l.foldl JH (0,0)
def cnt(x:Int)(l:List Int):Nat:=l.count x
def Tk(l:List Int)(v:Int):left (l++[v])=JH (left l) v:=by simp[left]
def Vl(x:Int)(l:List Int)(v:Int):cnt x (l++[v])=cnt x l+if v=x then 1 else 0:=by
 unfold cnt
 rw[List.count_append,List.count_singleton]
 simp
def Lb(x:Int)(l:List Int):cnt x l<=l.length:=List.count_le_length
def Wz(l:List Int):∀x,2*cnt x l+(left l).1<=l.length+(if x=(left l).2 then 2*(left l).1 else 0):=by
 suffices h:∀(r:List Int),(∀x,2*cnt x r.reverse+(left r.reverse).1<=r.reverse.length+(if x=(left r.reverse).2 then 2*(left r.reverse).1 else 0))by
  have:=h l.reverse
  rwa[List.reverse_reverse]at this
 intro r
 induction r with
 |nil=>intro x;simp[cnt,left]
 |cons v r ih=>
  intro x;have h:=ih x;have W:=ih v;rw[List.reverse_cons,Tk,Vl,List.length_append,List.length_singleton];generalize left r.reverse=s at h W ⊢;obtain⟨n,a⟩:=s
  simp only at h W ⊢
  unfold JH
  simp only
  by_cases X:n=0
  .subst X;rw[Ao rfl]
   by_cases e:v=x
   . subst e;simp at*;omega
   rw[Aj e];simp[Ne.symm e]at*;omega
  rw[Aj X]
  by_cases Z:v=a
  .subst Z;rw[Ao rfl]
   by_cases e:v=x
   . subst e;simp at*;omega
   rw[Aj e];simp[Ne.symm e]at*;omega
  rw[Aj Z]
  by_cases e:v=x
  .subst e;rw[Ao rfl];simp[Z]at*;omega
  rw[Aj e]
  by_cases Y:x=a
  . subst Y;simp at*;omega
  simp[Y]at*;omega
def Ri(l:List Int)(other:Int):Int:=if l.length<2*cnt (left l).2 l then(left l).2 else other
def Uk{l:List Int}{x:Int}(h:l.length<2*cnt x l):(left l).2=x:=by
 have:=Wz l x
 by_cases e:x=(left l).2
 . exact e.symm
 rw[Aj e]at this;omega
def aH{l:List Int}{x o:Int}(h:l.length<2*cnt x l):Ri l o=x:=by
 have e:=Uk h
 unfold Ri;rw[e,Ao h]
def fQ{l:List Int}{o:Int}(h:∀i (hi:i<l.length),¬l.length<2*cnt l[i] l):Ri l o=o:=by
 unfold Ri
 refine Aj fun Y=>?_;have Z:0<cnt (left l).2 l:=Aa;obtain⟨i,hi,e⟩:=List.getElem_of_mem (List.count_pos_iff.1 Z);exact h i hi (by rw[e];exact Y)
def aZ(l:List Int)(k:Nat)(Z:k<l.length):left (l.take (k+1))=JH (left (l.take k)) l[k]:=by
 rw[List.take_succ_eq_append_getElem Z,Tk]
def mg(l:List Int):(left l).1<=l.length:=by
 have h:=Wz l ((left l).2+1);rw[Aj Aa]at h;omega
def WA(x:Int)(l:List Int)(k:Nat)(Z:k<l.length):cnt x (l.take (k+1))=cnt x (l.take k)+if l[k]=x then 1 else 0:=by
 rw[List.take_succ_eq_append_getElem Z,Vl]
def XC{n:Nat}{a v:Int}(h:n=0):JH (n,a) v=(1,v):=by unfold JH;rw[Ao h]
def Xy{n:Nat}{a v:Int}(h:n≠0)(e:v=a):JH (n,a) v=(n+1,a):=by unfold JH;rw[Aj h,Ao e]
def UK{n:Nat}{a v:Int}(h:n≠0)(e:v≠a):JH (n,a) v=(n-1,a):=by unfold JH;rw[Aj h,Aj e]
end MajLaw
namespace Ints
open Go.ChangeShapes Go.WideShapes Go.ChangeAt Go.RowKit Mem
def AQ(Z:List Int):List Value:=Z.map (Value.int .i64)
def DJ(Z:List Int)(k:Nat)(Y:k<Z.length):(AQ Z)[k]?=some (.int .i64 Z[k]):=by simp[AQ,Y]
def LH(Z:List Int):∀u∈AQ Z,u.oneCell'=true:=fun u Y=>by
 obtain⟨z,_,rfl⟩:=List.mem_map.1 Y;rfl
def C8:Elem prog 63 3 (.int .i64 0) 1 8:=⟨underlying63,Ap,rfl,Aa⟩
def DU{w:World}{g:Nat}{t:TypeId}{cs:Array Value}(h:Ae w g t cs):Rd w (g+1) 1 (some ⟨g,0,none⟩) cs.size cs.toList:=
 ⟨Bq,fun _=>⟨g,0,rfl,Aa,fun j u Z=>by rw[Nat.zero_add,h.cell];simpa using Z⟩⟩
end Ints
namespace Av
def upd(S:Nat->Nat->Int)(i j:Nat)(v:Int):Nat->Nat->Int:=fun a b=>if a=i/\b=j then v else S a b
def tells(s r q:Nat):Prop:=r≠s/\q≠s/\q≠r
instance (s r q:Nat):Decidable (tells s r q):=inferInstanceAs (Decidable (_/\_/\_))
def OG(s q:Nat)(S:Nat->Nat->Int)(r:Nat):List Int:=((List.range r).filter fun p=>decide (p≠s/\p≠q)).map fun p=>S p q
def Ye(s q:Nat)(S:Nat->Nat->Int)(r:Nat):OG s q S (r+1)=OG s q S r++if r≠s/\r≠q then [S r q]else []:=by
 unfold OG
 rw[List.range_succ,List.filter_append,List.map_append]
 congr 1
 by_cases h:r≠s/\r≠q
 . rw[Ao h];simp[h]
 rw[Aj h];simp[h]
def Ue:∀s q,s<4->q<4->q≠s->∀S,(OG s q S 4).length=2:=by
 intro s q Y hq Z S
 unfold OG
 rw[List.length_map]
 rcases(show s=0\/s=1\/s=2\/s=3 by omega)with rfl|rfl|rfl|rfl<;>rcases(show q=0\/q=1\/q=2\/q=3 by omega)with rfl|rfl|rfl|rfl<;>first|rfl|exact absurd rfl Z
end Av
namespace Nd
open Go.RowKit Mem Rws Flat Av
def K5(k:Nat):Option Cw->Int
 |some m=>m.zs.getD k 0
 |none=>0
def Ca(id Z k:Nat)(o:Nat->Option Cw)(r:Nat):List Int:=OG id Z (fun p _=>K5 k (o p)) r
def FO(id Z k:Nat)(o:Nat->Option Cw)(r:Nat):Ca id Z k o (r+1)=Ca id Z k o r++if r≠id/\r≠Z then [K5 k (o r)]else []:=Ye id Z _ r
def LM{id Z:Nat}(k:Nat)(o:Nat->Option Cw)(W:id<4)(X:Z<4)(Y:Z≠id):(Ca id Z k o 4).length=2:=Ue id Z W X Y _
def Qy(id Z k:Nat)(o:Nat->Option Cw)(r:Nat):∀d,(Ca id Z k o r).length<=(Ca id Z k o (r+d)).length
 |0=>Nat.le_refl _
 |d+1=>by
  have h:=Qy id Z k o r d;rw[←Nat.add_assoc,FO,List.length_append];omega
def XG{id Z k:Nat}{o:Nat->Option Cw}(V:id<4)(W:Z<4)(Y:Z≠id){r:Nat}(U:r<4)(X:r≠id/\r≠Z):(Ca id Z k o r).length<2:=by
 have h:=Qy id Z k o (r+1) (4-(r+1))
 rw[show r+1+(4-(r+1))=4 by omega,LM k o V W Y,FO,Ao X,List.length_append,List.length_singleton]at h
 omega
def U3(id Z k:Nat)(o:Nat->Option Cw)(r:Nat):(Ca id Z k o r).length<=r:=by
 unfold Ca OG
 rw[List.length_map];exact Nat.le_trans (List.length_filter_le _ _) Bq
def EC(l:List Int)(i:Nat):Int:=l.getD i 0
def WI{l:List Int}(x:Int)(j:Nat):EC (l++[x]) j=if j=l.length then x else EC l j:=by
 unfold EC
 rw[List.getD_eq_getElem?_getD,List.getD_eq_getElem?_getD]
 by_cases e:j=l.length
 . rw[Ao e,e];simp
 rw[Aj e]
 by_cases h:j<l.length
 . rw[List.getElem?_append_left h]
 rw[List.getElem?_eq_none Ec,List.getElem?_eq_none Aa]
def Vx{l:List Int}(j:Nat):EC (l++[0]) j=EC l j:=by
 rw[WI]
 by_cases e:j=l.length
 . rw[Ao e,e];simp[EC,List.getD_eq_getElem?_getD]
 rw[Aj e]
def F8(w:World)(B:Nat)(o:Option Cw)(v:Value):Prop:=
 match o with
 |some m=>∃a c,v=.slice (some a) m.zs.length c/\Rd w B 1 (some a) m.zs.length (Ms.AQ m.zs)
 |none=>v=.slice none 0 0
def F8.of{w:World}{base:Nat}{o:Option Cw}{v:Value}(h:EH w base o v):F8 w w.heap.size o v:=by
 cases o with
 |none=>exact h
 |some m=>obtain⟨a,c,rfl,Z⟩:=h;exact⟨a,c,rfl,Rd.Bu Z⟩
def F8.below{w w':World}{B:Nat}{o:Option Cw}{v:Value}(h:F8 w B o v)(hb:Below B w w'):F8 w' B o v:=by
 cases o with
 |none=>exact h
 |some m=>obtain⟨a,c,e,Z⟩:=h;exact⟨a,c,e,Z.below hb⟩
def F8.more{w:World}{B Z:Nat}{o:Option Cw}{v:Value}(h:F8 w B o v)(Y:B<=Z):F8 w Z o v:=by
 cases o with
 |none=>exact h
 |some m=>obtain⟨a,c,e,X⟩:=h;exact⟨a,c,e,X.more Y⟩
def VO(s:Nat->Value)(o:Nat->Option Cw)(id Y Z:Nat)(qV:id<4)(qY:Y<4)(qR:Y≠id)(w:World)(hs:∀i:Nat,i<4->F8 w w.heap.size (o i) (s i))(F:∀i m,o i=some m->Z<m.zs.length/\m.zs.length<=100):
  Calls prog 40 #[.agg (row 4 s),.int .i64 (id:Int),.int .i64 (Y:Int),.int .i64 (Z:Int)] w fun e w'=>
   e=.returned (.agg (BH .i64 2 (EC (Ca id Y Z o 4))))/\Below w.heap.size w w':=by
 have hi:(prog.info? 88).map (·.size)=some (row 4 s).size:=Eg;have R:=fun(j:Nat) (hj:j<4) (w:World)=>Hf s j hj w;have qZ:=zz R;have HS:=zz hs;have HZ:=zz F;clear R hs F
 generalize row 4 s=H at*
 go_in
 go_upto_region 3 with fail
 have N:=zz (show Ae (((w.alloc (.cells H 88)).alloc (.cells bg 90)).alloc (.cells bg 90)) w.heap.size 88 H from((Ae.new rfl).alloc _).alloc _)
 have T:=zz (show Ae (((w.alloc (.cells H 88)).alloc (.cells bg 90)).alloc (.cells bg 90)) (w.heap.size+1) 90 (BH .i64 2 fun _=>0)from(Ae.new Bq).alloc _)
 have W:=zz (show Ae (((w.alloc (.cells H 88)).alloc (.cells bg 90)).alloc (.cells bg 90)) (w.heap.size+1+1) 90 (BH .i64 2 fun _=>0)from Ae.new Bq)
 have U:=zz (show Below w.heap.size w (((w.alloc (.cells H 88)).alloc (.cells bg 90)).alloc (.cells bg 90))from(((Below.refl _ _).alloc Aa _).alloc Bq _).alloc Ec _)
 generalize(((w.alloc (.cells H 88)).alloc (.cells bg 90)).alloc (.cells bg 90))=w1 at*
 obtain⟨L,E⟩:=AJ (w.heap.size);have G:=zz E;rw[E]at N T W ⊢;clear E;obtain⟨gr,y⟩:=AJ (L+1);rw[y]at T W ⊢;obtain⟨go,t⟩:=AJ (gr+1);rw[t]at W ⊢;have h1:L<gr:=Aa;have h2:gr<go:=Aa;clear y t
 have U:=zz (show Below L w w1 from by have h:=U.o;rw[G.o]at h;exact h)
 go_wp2_with(refine Ad rfl 88 _ rfl L rfl N.o _ underlying88 rfl hi ?_)
 go_loopw[10,14] (fun a i wr=>∃r:Nat,r<=4/\i=.int .i64 (r:Int)/\a=.int .i64 ((Ca id Y Z o r).length:Int)/\Ae wr L 88 H/\Ae wr gr 90 (BH .i64 2 fun _=>0)/\Ae wr go 90 (BH .i64 2 (EC (Ca id Y Z o r)))/\Below L w wr) (fun _ i _=>4-(intOf i).toNat)
 .exact⟨0,Aa,rfl,rfl,N.o,T.o,W.o,U.o⟩
 clear N T W U;obtain⟨r,hr,rfl,rfl,hh,A,ho,hb⟩:=hrel;have N:=zz hh;have T:=zz A;have W:=zz ho;have U:=zz hb;clear hh A ho hb
 by_cases M:r<4
 .have R:=fun w=>qZ.o r M w;have X:=(HS.o r M);have rA:(0:Int)<=(Z:Int):=Aa
  by_cases B:(r:Int)=(id:Int)
  .have qW:((r:Int)==(id:Int))=true:=by simpa using B
   have V:=zz (show Ca id Y Z o (r+1)=Ca id Y Z o r by rw[FO,Aj Aa,List.append_nil])
   clear B X;go_wp2_with fail;exact⟨⟨r+1,Aa,BG,by rw[V.o],N.o,T.o,by rw[V.o];exact W.o,U.o⟩,Ck⟩
  have qW:((r:Int)==(id:Int))=false:=by simpa using B
  by_cases x:(r:Int)=(Y:Int)
  .have qX:((r:Int)==(Y:Int))=true:=by simpa using x
   have V:=zz (show Ca id Y Z o (r+1)=Ca id Y Z o r by rw[FO,Aj Aa,List.append_nil])
   clear B x X;go_wp2_with fail;exact⟨⟨r+1,Aa,BG,by rw[V.o],N.o,T.o,by rw[V.o];exact W.o,U.o⟩,Ck⟩
  have qX:((r:Int)==(Y:Int))=false:=by simpa using x
  have O:=XG (k:=Z) (o:=o) qV qY qR M (show r≠id/\r≠Y by omega)
  have V:=zz (show Ca id Y Z o (r+1)=Ca id Y Z o r++[K5 Z (o r)]by rw[FO,Ao Aa])
  have J:=U3 id Y Z o r
  cases hor:o r with
  |none=>
   rw[hor]at X V;have l:s r=.slice none 0 0:=X;rw[l]at R
   have d:=zz (show((Ca id Y Z o r++[K5 Z none]).length:Int)=(((Ca id Y Z o r).length:Int)+1)by simp)
   have HP:=zz (fun j=>show EC (Ca id Y Z o r++[K5 Z none]) j=EC (Ca id Y Z o r) j from Vx j)
   generalize Ca id Y Z o r=C at*
   obtain⟨q,hq⟩:=AJ (C.length);rw[hq]at d O J ⊢;have HQ:=zz hq;clear hq B x X l hor;go_wp2_with fail;refine⟨⟨r+1,Aa,BG,?_,N.o,T.o,?_,U.o⟩,Ck⟩
   . rw[V.o,d.o]
   .rw[V.o,show EC (C++[K5 Z none])=EC C from funext HP.o]
    exact W.o
  |some m=>
   obtain⟨v,ru⟩:=HZ.o r m hor;rw[hor]at X V;obtain⟨a,ca,f,I⟩:=X;rw[f]at R;have I:=I.below (U.o.mono (Nat.le_of_eq G.o));obtain⟨b,of,u,e3,rD,hu,qU⟩:=I.at v
   injection e3 with e3
   subst e3
   obtain⟨z,F⟩:∃z,u=.int .i64 z/\m.zs.getD Z 0=z:=by
    refine⟨m.zs.getD Z 0,?_,rfl⟩
    have:(Ms.AQ m.zs)[Z]?=some (.int .i64 (m.zs.getD Z 0)):=by
     unfold Ms.AQ
     rw[List.getElem?_map,List.getD_eq_getElem?_getD,List.getElem?_eq_getElem v];rfl
    rw[this]at hu;exact(Option.some.inj hu).symm
   obtain⟨rfl,F⟩:=F
   have n:=zz (show K5 Z (some m)=z from F)
   have d:=zz (show((Ca id Y Z o r++[z]).length:Int)=(((Ca id Y Z o r).length:Int)+1)by simp)
   have HP:=zz (fun j=>show EC (Ca id Y Z o r++[z]) j=if j=(Ca id Y Z o r).length then z else EC (Ca id Y Z o r) j from WI z j)
   generalize Ca id Y Z o r=C at*
   obtain⟨q,hq⟩:=AJ (C.length);rw[hq]at d O J HP ⊢;have HQ:=zz hq;have rC:(0:Int)<=(q:Int):=Aa;have rE:(q:Int)<2:=Aa;have rq:(Z:Int)<(m.zs.length:Int):=Aa;have f1:=W.o.thaw q
   have x1: wr.cell? ⟨go,q,none⟩=some (.int .i64 (EC C q)):=by rw[W.o.cell];rw[Cu _ _ _ _ Aa]
   clear hq B x f hor F hu;go_wp2_with fail
   refine⟨⟨r+1,Aa,BG,?_,N.o.other (p:=⟨go,q,none⟩) (by show L≠go;omega) _,T.o.other (p:=⟨go,q,none⟩) (by show gr≠go;omega) _,?_,U.o.setCell (p:=⟨go,q,none⟩) (by show L<=go;omega) _⟩,Ck⟩
   . rw[V.o,n.o,d.o]
   rw[V.o,n.o];have h:=W.o.set q (.int .i64 z)
   rwa[Es (g:=EC (C++[z])) (fun i hi=>HP.o i)]at h
 obtain rfl:r=4:=Aa;clear M
 rw[show((4:Nat):Int)=4 from rfl]
 have c:(prog.info? 90).map (·.size)=some (BH .i64 2 (EC (Ca id Y Z o 4))).size:=by rw[EL];kernel_rfl
 have z2:(BH .i64 2 fun _=>0).size=(BH .i64 2 (EC (Ca id Y Z o 4))).size:=by rw[EL,EL]
 have o2:(BH .i64 2 (EC (Ca id Y Z o 4))).all (·.oneCell')=true:=Rb;obtain⟨RP,D⟩:=AJ (BH .i64 2 (EC (Ca id Y Z o 4)));rw[D]at W c z2 o2;have qQ:=zz D;clear D
 go_wp2_with(first|(refine Ad rfl 90 _ rfl go rfl W.o _ underlying90 rfl c ?_)|(refine wpList_store_row rfl 90 _ _ rfl gr RP rfl rfl 90 _ T.o c z2 o2 ?_))
 exact Fs rfl rfl (T.o.setRow RP) underlying90 rfl c rfl ⟨by rw[qQ.o],by rw[G.o];exact below_setRow U.o Aa RP⟩
end Nd
namespace Mj
open Go.ChangeShapes Go.WideShapes Go.ChangeAt Go.RowKit Mem MajLaw
def AQ(Z:List Int):List Value:=Z.map (Value.int .i64)
def DJ(Z:List Int)(k:Nat)(Y:k<Z.length):(AQ Z)[k]?=some (.int .i64 Z[k]):=by simp[AQ,Y]
def LH(Z:List Int):∀u∈AQ Z,u.oneCell'=true:=fun u Y=>by
 obtain⟨z,_,rfl⟩:=List.mem_map.1 Y;rfl
def C8:Elem prog 63 3 (.int .i64 0) 1 8:=⟨underlying63,Ap,rfl,Aa⟩
def DU{w:World}{g:Nat}{t:TypeId}{cs:Array Value}(h:Ae w g t cs):Rd w (g+1) 1 (some ⟨g,0,none⟩) cs.size cs.toList:=
 ⟨Bq,fun _=>⟨g,0,rfl,Aa,fun j u Z=>by rw[Nat.zero_add,h.cell];simpa using Z⟩⟩
def TD(A:Option Addr)(c:Nat)(Z:List Int)(o:Int)(B:Nat)(w:World)(D:Z.length<=140737488355328)(G:Rd w B 1 A Z.length (AQ Z)):
  Calls prog 68 #[.slice A Z.length c,.int .i64 o] w fun e w'=>e=.returned (.int .i64 (Ri Z o))/\w=w':=by
 have F:=zz G;clear G
 go_in
 go_wp2_with fail
 go_loop[5,6,13] (fun n a i=>∃k:Nat,k<=Z.length/\i=.int .i64 k/\n=.int .i64 ((left (Z.take k)).1:Nat)/\a=.int .i64 (left (Z.take k)).2) (fun _ _ i=>Z.length-(intOf i).toNat)
 .exact⟨0,Aa,rfl,rfl,rfl⟩
 obtain⟨k,J,rfl,rfl,rfl⟩:=hrel
 by_cases Y:k<Z.length
 .obtain⟨b,q,u,rfl,I,R,W⟩:=F.o.at Y;rw[DJ Z k Y]at R
  injection R with R
  subst R;have U:=zz (aZ Z k Y);have V:=mg (Z.take k);rw[List.length_take,Nat.min_eq_left J]at V;generalize left (Z.take k)=s at U V ⊢;generalize Z[k]=v at U W;obtain⟨n,a⟩:=s
  simp only at V ⊢
  have L:(k:Int)<(Z.length:Int):=Aa
  by_cases O:n=0
  .have X:=zz (show JH (n,a) v=(1,v)from XC O)
   have hb:((n:Int)==0)=true:=by simp[O]
   clear O;go_wp2_with fail;exact⟨⟨k+1,Aa,BG,by rw[U.o,X.o];rfl,by rw[U.o,X.o]⟩,Ck⟩
  have hb:((n:Int)==0)=false:=by simp[O]
  by_cases T:v=a
  .have X:=zz (show JH (n,a) v=(n+1,a)from Xy O T)
   have N:(v==a)=true:=by simp[T]
   clear O T;go_wp2_with fail;exact⟨⟨k+1,Aa,BG,by rw[U.o,X.o];go_num,by rw[U.o,X.o]⟩,Ck⟩
  have X:=zz (show JH (n,a) v=(n-1,a)from UK O T)
  have N:(v==a)=false:=by simp[T]
  have E:1<=n:=Aa;clear O T;go_wp2_with fail;exact⟨⟨k+1,Aa,BG,by rw[U.o,X.o];go_num,by rw[U.o,X.o]⟩,Ck⟩
 obtain rfl:k=Z.length:=Aa;clear Y
 have M:=zz (show Ri Z o=if Z.length<2*cnt (left (Z.take Z.length)).2 (Z.take Z.length)then(left (Z.take Z.length)).2 else o by rw[List.take_length];rfl)
 generalize left (Z.take Z.length)=s at M ⊢;obtain⟨n,a⟩:=s
 simp only at M ⊢
 go_wp2_with fail
 go_loop[5,32] (fun n i=>∃k:Nat,k<=Z.length/\i=.int .i64 k/\n=.int .i64 (cnt a (Z.take k):Nat)) (fun _ i=>Z.length-(intOf i).toNat)
 .exact⟨0,Aa,rfl,rfl⟩
 obtain⟨k,J,rfl,rfl⟩:=hrel;have V:=Lb a (Z.take k);rw[List.length_take,Nat.min_eq_left J]at V
 by_cases Y:k<Z.length
 .obtain⟨b,q,u,rfl,I,R,W⟩:=F.o.at Y;rw[DJ Z k Y]at R
  injection R with R
  subst R;have U:=zz (WA a Z k Y);generalize cnt a (Z.take k)=m at U V ⊢;generalize Z[k]=v at U W;have L:(k:Int)<(Z.length:Int):=Aa
  by_cases T:v=a
  .have X:=zz (show(if v=a then 1 else 0)=1 from Ao T)
   have N:(v==a)=true:=by simp[T]
   clear T;go_wp2_with fail;exact⟨⟨k+1,Aa,BG,by rw[U.o,X.o];go_num⟩,Ck⟩
  have X:=zz (show(if v=a then 1 else 0)=0 from Aj T)
  have N:(v==a)=false:=by simp[T]
  clear T;go_wp2_with fail;exact⟨⟨k+1,Aa,BG,by rw[U.o,X.o];go_num⟩,Ck⟩
 obtain rfl:k=Z.length:=Aa;clear Y;generalize cnt a (Z.take Z.length)=m at M V ⊢
 by_cases H:Z.length<2*m
 .have X:=zz (show(if Z.length<2*m then a else o)=a from Ao H)
  go_wp2_with fail
  go_ret
  exact⟨by rw[M.o,X.o];rfl,rfl⟩
 have X:=zz (show(if Z.length<2*m then a else o)=o from Aj H)
 go_wp2_with fail
 go_ret
 exact⟨by rw[M.o,X.o];rfl,rfl⟩
def O8(A:Option Addr)(c:Nat)(Z:List Int)(o:Int)(B:Nat)(w:World)(d:Z.length<=140737488355328)(t:Rd w B 1 A Z.length (AQ Z)):
  Calls prog 82 #[.slice A Z.length c,.int .i64 o] w fun e w'=>e=.returned (.int .i64 (Ri Z o))/\w=w':=by
 have p:=zz t;clear t
 go_in
 go_wp2_with fail
 go_loop[12] (fun i=>∃k:Nat,k<=Z.length/\i=.int .i64 k/\∀j (O:j<Z.length),j<k->¬Z.length<2*cnt Z[j] Z) (fun i=>Z.length-(intOf i).toNat)
 .exact⟨0,Aa,rfl,fun j _ h=>by omega⟩
 obtain⟨k,g,rfl,O⟩:=hrel;have r:=zz O;clear O
 by_cases R:k<Z.length
 .obtain⟨b,q,u,rfl,l,W,U⟩:=p.o.at R;rw[DJ Z k R]at W
  injection W with W
  subst W
  have N:=zz (show Z.length<2*cnt Z[k] Z->Ri Z o=Z[k]from fun h=>aH h)
  have G:=zz (show ¬Z.length<2*cnt Z[k] Z->∀j (O:j<Z.length),j<k+1->¬Z.length<2*cnt Z[j] Z from fun h j O T=>by
   by_cases e:j=k
   . subst e;exact h
   exact r.o j O Aa)
  generalize Z[k]=v at U N G;have y:(k:Int)<(Z.length:Int):=Aa;go_wp2_with fail
  go_loop[7,18] (fun n i=>∃m:Nat,m<=Z.length/\i=.int .i64 m/\n=.int .i64 (cnt v (Z.take m):Nat)) (fun _ i=>Z.length-(intOf i).toNat)
  .exact⟨0,Aa,rfl,rfl⟩
  obtain⟨m,M,rfl,rfl⟩:=hrel;have V:=Lb v (Z.take m);rw[List.length_take,Nat.min_eq_left M]at V
  by_cases X:m<Z.length
  .obtain⟨b',f,u,E,s,W,Y⟩:=p.o.at X
   injection E with E
   injection E with H I
   subst H I;rw[DJ Z m X]at W
   injection W with W
   subst W;have L:=zz (WA v Z m X);generalize cnt v (Z.take m)=n at L V ⊢;generalize Z[m]=x at L Y;have z:(m:Int)<(Z.length:Int):=Aa
   by_cases T:v=x
   .have D:=zz (show(if x=v then 1 else 0)=1 from Ao T.symm)
    have C:(v==x)=true:=by simp[T]
    clear T;go_wp2_with fail;exact⟨⟨m+1,Aa,BG,by rw[L.o,D.o];go_num⟩,Ck⟩
   have D:=zz (show(if x=v then 1 else 0)=0 from Aj (fun e=>T e.symm))
   have C:(v==x)=false:=by simp[T]
   clear T;go_wp2_with fail;exact⟨⟨m+1,Aa,BG,by rw[L.o,D.o];go_num⟩,Ck⟩
  obtain rfl:m=Z.length:=Aa;clear X;rw[List.take_length]at V ⊢;generalize cnt v Z=n at N G V ⊢
  by_cases M:Z.length<2*n
  .have F:=zz (N.o M);go_wp2_with fail
   go_ret
   exact⟨by rw[F.o];rfl,rfl⟩
  have J:=zz (G.o M);go_wp2_with fail;exact⟨⟨k+1,Aa,BG,J.o⟩,Ck⟩
 obtain rfl:k=Z.length:=Aa
 have N:=zz (show Ri Z o=o from fQ fun i hi=>r.o i hi hi)
 clear R;go_wp2_with fail
 go_ret
 exact⟨by rw[N.o];rfl,rfl⟩
def Kn(a b c:Int)(w:World):
  Calls prog 41 #[.int .i64 a,.int .i64 b,.int .i64 c] w fun e w'=>e=.returned (.int .i64 (Ri [a,b,c] 0))/\Below w.heap.size w w':=by
 have Z:=zz (DU (Ae.new (w:=w) (t:=3) (cs:=(G9 a b c)) rfl))
 go_in
 go_wp2_with fail;refine(TD _ 3 [a,b,c] 0 _ _ Bq Z.o).mono ?_;rintro e w1 ⟨rfl,rfl⟩;go_wp2_with fail
 go_ret
 exact⟨rfl,DC⟩
end Mj
namespace Nd
open Go.RowKit Mem Rws Flat Av
def Fh(id Z:Nat)(Y:Int)(k:Nat)(o:Nat->Option Cw):Int:=if Z=id then Y else MajLaw.Ri (Y::Ca id Z k o 4) 0
def Tj(R:Array Value)(hi:(prog.info? 37).map (·.size)=some R.size)(id:Nat)(ru:id<4)(fr:Int)(h0:R[0]?=some (.int .i64 (id:Int)))(h1:R[1]?=some (.int .i64 fr))(ab:Nat)(hab:ab<4)(hd:Int)(kk many:Nat)(hkm:kk<many)(hmm:many<=100)(A:Option Addr)(c:Nat)(ms:List Cw)(B:Nat)(w:World)(hB:B<=w.heap.size)(hl:ms.length<=140737488355328)(hr:Cc w B A ms):
  Calls prog 53 #[.agg R,.slice A ms.length c,.int .i64 (ab:Int),.int .i64 hd,.int .i64 (kk:Int),.int .i64 (many:Int)] w fun e w'=>
   e=.returned (.int .i64 (Fh id ab hd kk (fun i=>Be (id:Int) fr 2 many (i:Int) ms)))/\Below w.heap.size w w':=by
 obtain⟨o,ho⟩:=AJ (fun i:Nat=>Be (id:Int) fr 2 many (i:Int) ms)
 have HO:=zz (fun i:Nat=>show Be (id:Int) fr 2 many (i:Int) ms=o i from congrFun ho i)
 have rA:=zz (fun(i:Nat) m (h:o i=some m)=>show m.zs.length=many from IE (by rw[HO.o];exact h))
 rw[ho];clear ho;have rC:=zz hr;have H0:=zz h0;have H1:=zz h1;have HI:=zz hi;clear hr h0 h1 hi
 go_in
 go_upto_region 1 with fail
 have X:=zz (show Ae (w.alloc (.cells R 37)) w.heap.size 37 R from Ae.fresh _ _ _)
 have Y:=zz ((Below.refl w.heap.size w).alloc Nr (.cells R 37))
 generalize(w.alloc (.cells R 37))=w1 at*
 obtain⟨I,x⟩:=AJ (w.heap.size);have N:=zz x;rw[x]at X hB ⊢
 have Y:=zz (show Below I w w1 from by have h:=Y.o;rw[N.o]at h;exact h)
 have x0:=(X.o.cell 0).trans H0.o;clear x
 by_cases l:ab=id
 .have rq:((ab:Int)==(id:Int))=true:=by subst l;simp
  have T:=zz (show Fh id ab hd kk o=hd from Ao l)
  clear l;go_wp2_with fail
  go_ret
  exact⟨Ik T.o.symm,by rw[N.o];exact Y.o⟩
 have rq:((ab:Int)==(id:Int))=false:=by simpa using (show ¬(ab:Int)=(id:Int)by omega)
 have d:=zz (show Fh id ab hd kk o=MajLaw.Ri (hd::Ca id ab kk o 4) 0 from Aj l)
 have qW:=l;have rH:=X.o.lt;clear l
 go_upto_region 4 with fail
 have M:=zz (show(w1.alloc (.cells (LB hd) 3)).ownsRow (I+1) 3 1 (.slice (some ⟨w1.heap.size,0,none⟩) 1 1) 1 (Mj.AQ [hd])from World.ownsRow_lit (base:=I+1) (size:=1) (e:=3) w1 (LB hd) 1 Aa GX Bq)
 have X:=zz (X.o.alloc (.cells (LB hd) 3));have Y:=zz (Y.o.alloc Aa (.cells (LB hd) 3));clear x0
 generalize(w1.alloc (.cells (LB hd) 3))=w2 at*
 generalize w1.heap.size=gx at*
 go_wp2_with fail
 go_loopw[13,14] (fun lv iv wr=>∃(p:Nat) (f:Option Addr) (j:Nat),p<=4/\lv=.slice f ((Ca id ab kk o p).length+1) j/\iv=.int .i64 p/\wr.ownsRow (I+1) 3 1 (.slice f ((Ca id ab kk o p).length+1) j) ((Ca id ab kk o p).length+1) (Mj.AQ (hd::Ca id ab kk o p))/\Ae wr I 37 R/\Below I w wr) (fun _ i _=>4-(intOf i).toNat)
 .exact⟨0,some ⟨gx,0,none⟩,1,Aa,rfl,rfl,M.o,X.o,Y.o⟩
 clear X Y M;obtain⟨p,f,j,rO,rfl,rfl,qQ,hn,hb⟩:=hrel;have M:=zz qQ;have X:=zz hn;have Y:=zz hb;have y0:=(X.o.cell 0).trans H0.o;clear hn hb qQ;have C:=X.o.lt
 by_cases qY:p<4
 .have rD:(p:Int)<4:=Aa
  by_cases O:p=id
  .have m1:((p:Int)==(id:Int))=true:=by simp[O]
   have T:=zz (show Ca id ab kk o (p+1)=Ca id ab kk o p from by rw[FO,Aj (fun h=>h.1 O),List.append_nil])
   clear O;go_wp2_with fail;exact⟨⟨p+1,f,j,Aa,by rw[T.o],BG,by rw[T.o];exact M.o,X.o,Y.o⟩,Ck⟩
  have m1:((p:Int)==(id:Int))=false:=Ec
  by_cases J:p=ab
  .have m2:((p:Int)==(ab:Int))=true:=by simp[J]
   have T:=zz (show Ca id ab kk o (p+1)=Ca id ab kk o p from by rw[FO,Aj (fun h=>h.2 J),List.append_nil])
   clear O J;go_wp2_with fail;exact⟨⟨p+1,f,j,Aa,by rw[T.o],BG,by rw[T.o];exact M.o,X.o,Y.o⟩,Ck⟩
  have m2:((p:Int)==(ab:Int))=false:=Ec
  have T:=zz (show Ca id ab kk o (p+1)=Ca id ab kk o p++[K5 kk (o p)]by rw[FO,Ao ⟨O,J⟩])
  have qR:=U3 id ab kk o p;clear O J
  generalize Ca id ab kk o p=F at*
  obtain⟨q,hq⟩:=AJ (F.length);rw[hq]at M qR ⊢;have H:=zz hq;clear hq;have hi:=HI.o
  go_wp2_with(refine Ad rfl 37 _ rfl I rfl X.o _ underlying37 rfl hi ?_)
  refine(L9 R (id:Int) fr H0.o H1.o A c ms (p:Int) 2 many B wr Aa hl (rC.o.below (Y.o.mono hB))).mono ?_;rintro e k ⟨hf,hb⟩;rw[HO.o p]at hf;have M:=GJ M hb;have X:=AU X hb;have Y:=zz (Bh Y.o (by have:=Y.o.size;have:=N.o;omega) hb);clear hb y0 C
  cases hor:o p with
  |none=>
   rw[hor]at hf T;obtain rfl:e=.returned (.tuple gu):=hf;clear hor
   have y:=zz (show K5 kk none=0 from rfl)
   have n:=zz (Vt.Ff k (.int .i64 0) 3);have U:=zz (ownsRow_below M.o ((Below.refl k.heap.size k).alloc Nr (.cells (LB 0) 3)));have D:=zz (Y.o.alloc (by have:=Y.o.size;have:=N.o;omega) (.cells (LB 0) 3));have L:=zz (X.o.alloc (.cells (LB 0) 3));have C:=L.o.lt;have qZ:=X.o.lt
   go_wp2_with(at_builtin;go_loud (refine Aq _ rfl (.tmp 53) (.tmp 54) 63 rfl (base:=I+1) Ms.C8 rfl U.o rfl (fun h=>by cases h) n.o GR GX Aa Ec ?_);intro A9 c9 w5 t Z V;have v:=zz Z;have r:=zz (L.o.grown V (fun e=>by have:=(U.o.lt _ e.symm).1;omega));have s:=zz (D.o.grown V Aa (fun g e=>by have:=(U.o.lt g e).1;omega));clear t Z V)
   refine⟨⟨p+1,A9,c9,Aa,?_,BG,?_,r.o,s.o⟩,Ck⟩
   . rw[T.o,List.length_append,H.o];rfl
   .rw[T.o,List.length_append,H.o,y.o,show Mj.AQ (hd::(F++[0]))=Mj.AQ (hd::F)++[.int .i64 0]by simp[Mj.AQ]]
    exact v.o
  |some m=>
   have rG:=rA.o p m hor;rw[hor]at hf T;obtain⟨a,ca,rfl,qV,rM,qX⟩:=hf;have G:kk<m.zs.length:=Aa;obtain⟨b,of,u,e3,rJ,hu,E⟩:=qX.at G;subst e3
   obtain⟨rfl,hz⟩:u=.int .i64 (m.zs.getD kk 0)/\True:=by
    have:(Ms.AQ m.zs)[kk]?=some (.int .i64 (m.zs.getD kk 0)):=by
     unfold Ms.AQ
     rw[List.getElem?_map,List.getD_eq_getElem?_getD,List.getElem?_eq_getElem G];rfl
    rw[this]at hu;exact⟨(Option.some.inj hu).symm,trivial⟩
   obtain⟨z,hz⟩:=AJ (m.zs.getD kk 0)
   have y:=zz (show K5 kk (some m)=z from hz)
   rw[hz]at E;have rF:(0:Int)<=(kk:Int):=Aa;have rE:(kk:Int)<(m.zs.length:Int):=Aa;clear hor hu hz qV;have n:=zz (Vt.Ff k (.int .i64 z) 3);have U:=zz (ownsRow_below M.o ((Below.refl k.heap.size k).alloc Nr (.cells (LB z) 3)));have D:=zz (Y.o.alloc (by have:=Y.o.size;have:=N.o;omega) (.cells (LB z) 3));have L:=zz (X.o.alloc (.cells (LB z) 3));have C:=L.o.lt;have qZ:=X.o.lt
   go_wp2_with(at_builtin;go_loud (refine Aq _ rfl (.tmp 46) (.tmp 51) 63 rfl (base:=I+1) Ms.C8 rfl U.o rfl (fun h=>by cases h) n.o GR GX Aa Ec ?_);intro A9 c9 w5 t Z V;have v:=zz Z;have r:=zz (L.o.grown V (fun e=>by have:=(U.o.lt _ e.symm).1;omega));have s:=zz (D.o.grown V Aa (fun g e=>by have:=(U.o.lt g e).1;omega));clear t Z V)
   refine⟨⟨p+1,A9,c9,Aa,?_,BG,?_,r.o,s.o⟩,Ck⟩
   . rw[T.o,List.length_append,H.o];rfl
   rw[T.o,List.length_append,H.o,y.o,show Mj.AQ (hd::(F++[z]))=Mj.AQ (hd::F)++[.int .i64 z]by simp[Mj.AQ]]
   exact v.o
 obtain rfl:p=4:=Aa;clear qY
 rw[show((4:Nat):Int)=4 from rfl]
 have W:=zz (LM kk o ru hab qW);obtain⟨F,qU⟩:=AJ (Ca id ab kk o 4);rw[qU]at d W M ⊢;clear qU;rw[W.o]at M ⊢;go_wp2_with fail;have cM:=Mj.O8 f j (hd::F) 0 wr.heap.size wr (by rw[List.length_cons,W.o];omega) (by rw[List.length_cons,W.o];exact Rd.Bu M.o)
 rw[show(hd::F).length=3 by rw[List.length_cons,W.o]]at cM
 refine cM.mono ?_;rintro e w9 ⟨rfl,rfl⟩;go_wp2_with fail
 go_ret
 refine⟨Ik ?_,by rw[N.o];exact Y.o⟩;rw[d.o]
end Nd
namespace Nd
open Go.RowKit Mem Rws
def upd{α:Type}(g:Nat->α)(i:Nat)(v:α)(k:Nat):α:=if k=i then v else g k
def upd_same{α:Type}(g:Nat->α)(i:Nat)(v:α):upd g i v i=v:=Ao rfl
def J9{α:Type}(g:Nat->α){i k:Nat}(v:α)(h:k≠i):upd g i v k=g k:=Aj h
def NR(f:Nat->Bool)(m j:Nat->Int)(i:Nat)(hi:i<4)(b:Bool):(row 12 (Bo f m j)).setIfInBounds i (.bool b)=row 12 (Bo (upd f i b) m j):=by
 rw[Di];refine AA fun k Z=>?_
 by_cases e:k=i
 . subst e;rw[Ao rfl];unfold Bo;rw[Ao hi,upd_same]
 rw[Aj e];unfold Bo;rw[J9 _ _ e]
def EP(f:Nat->Bool)(m j:Nat->Int)(i:Nat)(hi:i<4)(v:Int):(row 12 (Bo f m j)).setIfInBounds (4+i) (.int .i64 v)=row 12 (Bo f (upd m i v) j):=by
 rw[Di];refine AA fun k Y=>?_
 by_cases e:k=4+i
 . subst e;rw[Ao rfl];unfold Bo;rw[Aj (show ¬(4+i<4)by omega),Ao (show 4+i<8 by omega),Nat.add_sub_cancel_left,upd_same]
 rw[Aj e];unfold Bo
 by_cases h:k<4
 . rw[Ao h,Ao h]
 rw[Aj h,Aj h]
 by_cases Z:k<8
 . rw[Ao Z,Ao Z,J9 _ _ Aa]
 rw[Aj Z,Aj Z]
def Gt(f:Nat->Bool)(m j:Nat->Int)(i:Nat)(hi:i<4)(v:Int):(row 12 (Bo f m j)).setIfInBounds (8+i) (.int .i64 v)=row 12 (Bo f m (upd j i v)):=by
 rw[Di];refine AA fun k Y=>?_
 by_cases e:k=8+i
 . subst e;rw[Ao rfl];unfold Bo;rw[Aj (show ¬(8+i<4)by omega),Aj (show ¬(8+i<8)by omega),Nat.add_sub_cancel_left,upd_same]
 rw[Aj e];unfold Bo
 by_cases h:k<4
 . rw[Ao h,Ao h]
 rw[Aj h,Aj h]
 by_cases Z:k<8
 . rw[Ao Z,Ao Z]
 rw[Aj Z,Aj Z,J9 _ _ Aa]
def Yd{f Y:Nat->Bool}{m X j W:Nat->Int}(V:∀i,i<4->f i=Y i)(T:∀i,i<4->m i=X i)(U:∀i,i<4->j i=W i):row 12 (Bo f m j)=row 12 (Bo Y X W):=AA fun k R=>by
 unfold Bo
 by_cases h:k<4
 . rw[Ao h,Ao h,V k h]
 rw[Aj h,Aj h]
 by_cases Z:k<8
 . rw[Ao Z,Ao Z,T _ Aa]
 rw[Aj Z,Aj Z,U _ Aa]
structure RS where
 f:Nat->Bool
 m:Nat->Int
 j:Nat->Int
def RS.row(s:RS):Array Value:=Rws.row 12 (Bo s.f s.m s.j)
def one(s:RS)(i:Nat)(b:Bool):RS×List (Int×Int):=
 if s.f i=true then
  if b=true then(⟨s.f,upd s.m i 0,s.j⟩,[])
  else if 2<=s.m i+1/\2<FH s.f 4 then(⟨upd s.f i false,upd s.m i 0,s.j⟩,[(1,(i:Int))])
  else(⟨s.f,upd s.m i (min (s.m i+1) 2),s.j⟩,[])
 else if b=false then(⟨s.f,s.m,upd s.j i 0⟩,[])
 else if 3<=s.j i+1 then(⟨upd s.f i true,s.m,upd s.j i 0⟩,[(2,(i:Int))])
 else(⟨s.f,s.m,upd s.j i (s.j i+1)⟩,[])
def many(s:RS)(Z:Nat->Bool):Nat->RS×List (Int×Int)
 |0=>(s,[])
 |k+1=>((one (many s Z k).1 k (Z k)).1,(many s Z k).2++(one (many s Z k).1 k (Z k)).2)
def GoodAt(s:RS)(i:Nat):Prop:=Xn s.f s.m s.j i=true
def bf(s:RS){i k:Nat}(b:Bool)(h:k≠i):(one s i b).1.f k=s.f k/\(one s i b).1.m k=s.m k/\(one s i b).1.j k=s.j k:=by
 unfold one
 (repeat' split)<;>simp[J9 _ _ h]
def Xr{f Z:Nat->Bool}{m Y j X:Nat->Int}{k:Nat}(W:f k=Z k)(U:m k=Y k)(V:j k=X k):Xn f m j k=Xn Z Y X k:=by
 rw[LF (f:=f) (m:=m) (j:=j) rfl rfl rfl,LF (f:=Z) (m:=Y) (j:=X) rfl rfl rfl,W,U,V]
def Me(s:RS)(Z:Nat->Bool):∀k,∀i,k<=i->GoodAt s i->GoodAt (many s Z k).1 i
 |0,i,_,h=>h
 |k+1,i,hk,h=>by
  have Y:=Me s Z k i Aa h
  obtain⟨V,X,W⟩:=bf (many s Z k).1 (Z k) (show i≠k by omega)
  unfold GoodAt at Y ⊢
  rw[←Y];exact Xr V X W
def TY{s:RS}{i:Nat}(h:GoodAt s i)(Z:s.f i=true):0<=s.m i/\s.m i<=2/\s.j i=0:=by
 unfold GoodAt at h
 rw[LF Z rfl rfl,Qm]at h
 simpa[and_assoc] using h
def Qh{s:RS}{i:Nat}(h:GoodAt s i)(Z:s.f i=false):s.m i=0/\0<=s.j i/\s.j i<3:=by
 unfold GoodAt at h
 rw[LF Z rfl rfl,Nj]at h
 simpa[and_assoc] using h
def Pf{f:Nat->Bool}{m j:Nat->Int}:∀ {n:Nat},Ji f m j n=true->∀i,i<n->Xn f m j i=true
 |0,_,i,h=>by omega
 |n+1,h,i,hi=>by
  unfold Ji at h
  simp only[Bool.and_eq_true]at h
  by_cases e:i=n
  . subst e;exact h.2
  exact Pf h.1 i Aa
def Rc(s:RS)(Z:Nat->Bool):∀k,(many s Z k).2.length<=k
 |0=>Nat.le_refl _
 |k+1=>by
  have:=Rc s Z k
  unfold many
  rw[List.length_append]
  have Y:(one (many s Z k).1 k (Z k)).2.length<=1:=by unfold one;(repeat' split)<;>simp
  omega
end Nd
namespace Nd
open Go.RowKit Mem Rws Flat
def EW(f:Nat->Value)(r:RS)(i:Nat):Value:=if 27<=i/\i<39 then Bo r.f r.m r.j (i-27)else f i
def Qj{f:Nat->Value}(Y:∀i,i<73->C9 (Ar i) (f i))(r:RS):∀i,i<73->C9 (Ar i) (EW f r i):=fun i hi=>by
 unfold EW
 by_cases h:27<=i/\i<39
 .rw[Ao h]
  unfold Bo
  by_cases Z:i-27<4
  .rw[Ao Z];obtain rfl|rfl|rfl|rfl:i=27\/i=28\/i=29\/i=30:=Aa
   all_goals exact⟨_,rfl⟩
  rw[Aj Z]
  have e:Ar i=true:=by unfold Ar;simp;omega
  rw[e]
  split
  . exact⟨_,rfl⟩
  exact⟨_,rfl⟩
 rw[Aj h];exact Y i hi
def QI(f:Nat->Value)(r:RS)(S:Value):row 74 (over 27 12 (Bo r.f r.m r.j) (Ab f S))=row 74 (Ab (EW f r) S):=AA fun i hi=>by
 unfold over Ab EW
 by_cases h:27<=i/\i<39
 . rw[Ao h,Aj Aa,Ao h]
 rw[Aj h,Aj h]
end Nd
namespace Nd
open Go.RowKit Mem Rws
def Pq{α:Type}(g:Nat->α)(i:Nat)(a b:α):upd (upd g i a) i b=upd g i b:=funext fun k=>by unfold upd;split<;>rfl
def eF{α:Type}(g:Nat->α)(i:Nat){a:α}(h:g i=a):upd g i a=g:=funext fun k=>by unfold upd;split;subst_vars;rfl;rfl
section
variable {w w1 w2 : World} {row : Option Nat}
def mQ(w:World)(row:Option Nat):w.grownBy w row:=⟨rfl,rfl,rfl,Nat.le_refl _,fun _ _ _=>rfl⟩
def Df(h:w.grownBy w1 row)(k:w1.grownBy w2 row):w.grownBy w2 row:=⟨k.os.trans h.os,k.tape.trans h.tape,k.output.trans h.output,Nat.le_trans h.size k.size,fun g Y Z=>(k.block g (Nat.lt_of_lt_of_le Y h.size) Z).trans (h.block g Y Z)⟩
def J8(w:World)(n:Nat)(row:Option Nat):w.grownBy (w.drewN n) row:=⟨rfl,rfl,rfl,Nat.le_refl _,fun _ _ _=>rfl⟩
def Ia(w:World)(g i:Nat)(u:Value):w.grownBy (w.setCell ⟨g,i,none⟩ u) (some g):=⟨rfl,rfl,rfl,Bq,fun k Y Z=>Below.heap_setCell w ⟨g,i,none⟩ u k (fun e=>Z (by rw[e]))⟩
def JE(h:Below w.heap.size w w1):w.grownBy w1 row:=⟨h.os,h.tape,h.output,h.size,fun k Z _=>h.block k Z⟩
end
def eO(w w':World)(g:Nat)(s:RS)(i:Nat)(b:Bool)(Y:Int)(e:Ending):Prop:=
 ∃Z:Bool,e=.returned (.bool Z)/\(one s i b).2=(if Z=true then [(Y,(i:Int))]else [])/\Ae w' g 30 (one s i b).1.row/\w.grownBy w' (some g)
def eX(s:RS)(i:Nat)(hi:i<4)(b:Bool)(T:s.f i=true)(I:GoodAt s i)(g:Nat)(w:World)(W:Ae w g 30 s.row):
  Calls prog 74 #[.pointer (some ⟨g,0,none⟩),.int .i64 (i:Int),.bool b] w fun e w'=>eO w w' g s i b 1 e:=by
 obtain⟨D,E,L⟩:=TY I T;obtain⟨f,m,j⟩:=s;dsimp only at T D E L;have W:Ae w g 30 (row 12 (Bo f m j)):=W;have J:=zz W;have u:=W.lt
 have M: w.cell? ⟨g,4+i,none⟩=some (.int .i64 (m i)):=by rw[W.cell,Ah Aa,EB hi]
 have G:=W.thaw (4+i)
 have B: w.cell? ⟨g,i,none⟩=some (.bool true):=by rw[W.cell,Ah Aa,EZ hi,T]
 have x:(0:Int)<=(i:Int):=Aa;have y:(i:Int)<4:=Aa;have R:=zz T;have F:=zz L;clear I W T L
 cases b with
 |true=>
  have Z:=zz (show one ⟨f,m,j⟩ i true=(⟨f,upd m i 0,j⟩,[])by unfold one;rw[Ao R.o,Ao rfl])
  go_in
  go_wp2_with fail
  go_ret
  refine⟨false,rfl,by rw[Z.o];rfl,?_,Ia _ _ _ _⟩;rw[Z.o]
  show Ae _ _ _ (row 12 (Bo f (upd m i 0) j))
  rw[←EP f m j i hi 0];exact J.o.set (4+i) _
 |false=>
  obtain⟨q,hq⟩:=AJ (m i);rw[hq]at M D E;have O:=zz hq;clear hq;have r:IntKind.i64.wrap (q+1)=q+1:=IntWalk.i64_in _ Aa
  go_in
  go_wp2_with fail
  go_region
  have V:=zz ((J.o.set (4+i) (.int .i64 (q+1))).drew);rw[EP f m j i hi]at V;have G1:Hid (w.grownBy ((w.setCell ⟨g,4+i,none⟩ (.int .i64 (q+1))).drew) (some g)):=zz (Df (Ia w g (4+i) (.int .i64 (q+1))) (J8 _ 1 _))
  generalize((w.setCell ⟨g,4+i,none⟩ (.int .i64 (q+1))).drew)=w1 at*
  have M: w1.cell? ⟨g,4+i,none⟩=some (.int .i64 (q+1)):=by rw[V.o.cell,Ah Aa,EB hi,upd_same]
  have G:=V.o.thaw (4+i);have A:(prog.info? 30).map (·.size)=some (row 12 (Bo f (upd m i (q+1)) j)).size:=Eg;clear J
  by_cases U:q+1<2
  .have Z:=zz (show one ⟨f,m,j⟩ i false=(⟨f,upd m i (min (q+1) 2),j⟩,[])by unfold one;dsimp only;rw[Ao R.o,Aj El,Aj (by rw[O.o];omega),O.o])
   have Y:min (q+1) 2=q+1:=Aa;go_wp2_with fail
   go_region
   go_wp2_with fail
   go_ret
   refine⟨false,rfl,by rw[Z.o];rfl,?_,Df G1.o (Df (Ia _ g (4+i) _) (J8 _ 1 _))⟩;rw[Z.o]
   show Ae _ _ _ (row 12 (Bo f (upd m i (min (q+1) 2)) j))
   rw[Y];have h:=(V.o.set (4+i) (.int .i64 (q+1))).drew;rw[EP _ _ _ i hi,Pq]at h;exact h
  have t:decide (q+1<2)=false:=decide_eq_false U;have U:2<=q+1:=Aa
  go_upto_region 5 with fail
  refine wp_region_list ?_
  iterate 8
   refine Af Bb (fun K hK=>?_);go_simp
   try simp only[t]
   refine hK _ _ ?_;(try simp only[Rg.lp])
  iterate 2
   refine Af Bb (fun K hK=>?_);go_simp;refine hK _ _ ?_;(try simp only[Rg.lp])
  refine Ad Bb 30 _ rfl g rfl V.o _ underlying30 rfl A ?_;(try simp only[Rg.lp]);refine Af Bb (fun K hK=>?_);go_simp
  go_at_call 108
  refine(Z5 f (upd m i (q+1)) j _).mono ?_;rintro e w2 ⟨rfl,hb⟩;have X:=AU V hb;have G2:Hid (w.grownBy w2 (some g)):=zz (Df G1.o (JE hb));have v:=Lf f 4;obtain⟨C,z⟩:∃C:Int,(FH f 4:Int)=C:=⟨_,rfl⟩;rw[z]
  have M: w2.cell? ⟨g,4+i,none⟩=some (.int .i64 (q+1)):=by rw[X.o.cell,Ah Aa,EB hi,upd_same]
  have G:=X.o.thaw (4+i);clear hb V G1
  by_cases H:C<=2
  .have Z:=zz (show one ⟨f,m,j⟩ i false=(⟨f,upd m i (min (q+1) 2),j⟩,[])by unfold one;dsimp only;rw[Ao R.o,Aj El,Aj (by rw[O.o];omega),O.o])
   have Y:min (q+1) 2=2:=Aa;have N:decide (C<=2)=true:=decide_eq_true H;go_wp2_with fail
   go_region
   all_goals go_wp2_with fail
   all_goals
    go_ret
    refine⟨false,rfl,by rw[Z.o];rfl,?_,Df G2.o (Df (Ia _ g (4+i) _) (J8 _ 1 _))⟩;rw[Z.o]
    show Ae _ _ _ (row 12 (Bo f (upd m i (min (q+1) 2)) j))
    rw[Y];have h:=(X.o.set (4+i) (.int .i64 2)).drew;rw[EP _ _ _ i hi,Pq]at h
    first|exact h|(rw[show q+1=2 by omega];exact h)
  have Z:=zz (show one ⟨f,m,j⟩ i false=(⟨upd f i false,upd m i 0,j⟩,[(1,(i:Int))])by unfold one;dsimp only;rw[Ao R.o,Aj El,Ao (by rw[O.o];omega)])
  have N:decide (C<=2)=false:=decide_eq_false H
  have B: w2.cell? ⟨g,i,none⟩=some (.bool true):=by rw[X.o.cell,Ah Aa,EZ hi,R.o]
  have l: w2.cell? ⟨g,8+i,none⟩=some (.int .i64 0):=by rw[X.o.cell,Ah Aa,FC hi,F.o]
  have p:=X.o.thaw i;have n:=X.o.thaw (8+i);go_wp2_with fail
  go_region
  go_wp2_with fail
  go_ret
  refine⟨true,rfl,by rw[Z.o];rfl,?_,Df G2.o (Df (Ia _ g i _) (Df (Ia _ g (4+i) _) (Df (Ia _ g (8+i) _) (J8 _ 1 _))))⟩;rw[Z.o]
  show Ae _ _ _ (row 12 (Bo (upd f i false) (upd m i 0) j))
  have h:=(((X.o.set i (.bool false)).set (4+i) (.int .i64 0)).set (8+i) (.int .i64 0)).drew;rw[NR _ _ _ i hi,EP _ _ _ i hi,Gt _ _ _ i hi,Pq,eF j i F.o]at h;exact h
def iD(s:RS)(i:Nat)(hi:i<4)(b:Bool)(U:s.f i=false)(M:GoodAt s i)(g:Nat)(w:World)(W:Ae w g 30 s.row):
  Calls prog 75 #[.pointer (some ⟨g,0,none⟩),.int .i64 (i:Int),.bool b] w fun e w'=>eO w w' g s i b 2 e:=by
 obtain⟨R,L,J⟩:=Qh M U;obtain⟨f,m,j⟩:=s;dsimp only at U R L J;have W:Ae w g 30 (row 12 (Bo f m j)):=W;have N:=zz W;have C:=W.lt
 have I: w.cell? ⟨g,8+i,none⟩=some (.int .i64 (j i)):=by rw[W.cell,Ah Aa,FC hi]
 have G:=W.thaw (8+i);have E:(0:Int)<=(i:Int):=Aa;have F:(i:Int)<4:=Aa;have D:=zz U;have H:=zz R
 have V:¬(f i=true):=by rw[U];decide
 have X:=zz V;clear M W U R V
 cases b with
 |false=>
  have Y:=zz (show one ⟨f,m,j⟩ i false=(⟨f,m,upd j i 0⟩,[])by unfold one;rw[Aj X.o,Ao rfl])
  go_in
  go_wp2_with fail
  go_ret
  refine⟨false,rfl,by rw[Y.o];rfl,?_,Ia _ _ _ _⟩;rw[Y.o]
  show Ae _ _ _ (row 12 (Bo f m (upd j i 0)))
  rw[←Gt f m j i hi 0];exact N.o.set (8+i) _
 |true=>
  obtain⟨q,hq⟩:=AJ (j i);rw[hq]at I L J;have O:=zz hq;clear hq;have A:IntKind.i64.wrap (q+1)=q+1:=IntWalk.i64_in _ Aa
  go_in
  go_wp2_with fail
  go_region
  have Z:=zz ((N.o.set (8+i) (.int .i64 (q+1))).drew);rw[Gt f m j i hi]at Z;have G1:Hid (w.grownBy ((w.setCell ⟨g,8+i,none⟩ (.int .i64 (q+1))).drew) (some g)):=zz (Df (Ia w g (8+i) (.int .i64 (q+1))) (J8 _ 1 _))
  generalize((w.setCell ⟨g,8+i,none⟩ (.int .i64 (q+1))).drew)=w1 at*
  have I: w1.cell? ⟨g,8+i,none⟩=some (.int .i64 (q+1)):=by rw[Z.o.cell,Ah Aa,FC hi,upd_same]
  have G:=Z.o.thaw (8+i);clear N
  by_cases T:q+1<3
  .have Y:=zz (show one ⟨f,m,j⟩ i true=(⟨f,m,upd j i (q+1)⟩,[])by unfold one;dsimp only;rw[Aj X.o,Aj El,Aj (by rw[O.o];omega),O.o])
   go_wp2_with fail
   go_ret
   exact⟨false,rfl,by rw[Y.o];rfl,by rw[Y.o];exact Z.o,G1.o⟩
  have Y:=zz (show one ⟨f,m,j⟩ i true=(⟨upd f i true,m,upd j i 0⟩,[(2,(i:Int))])by unfold one;dsimp only;rw[Aj X.o,Aj El,Ao (by rw[O.o];omega)])
  have T:3<=q+1:=Aa
  have B: w1.cell? ⟨g,i,none⟩=some (.bool false):=by rw[Z.o.cell,Ah Aa,EZ hi,D.o]
  have x: w1.cell? ⟨g,4+i,none⟩=some (.int .i64 0):=by rw[Z.o.cell,Ah Aa,EB hi,H.o]
  have z:=Z.o.thaw i;have y:=Z.o.thaw (4+i);go_wp2_with fail
  go_region
  go_wp2_with fail
  go_ret
  refine⟨true,rfl,by rw[Y.o];rfl,?_,Df G1.o (Df (Ia _ g i _) (Df (Ia _ g (4+i) _) (Df (Ia _ g (8+i) _) (J8 _ 1 _))))⟩;rw[Y.o]
  show Ae _ _ _ (row 12 (Bo (upd f i true) m (upd j i 0)))
  have h:=(((Z.o.set i (.bool true)).set (4+i) (.int .i64 0)).set (8+i) (.int .i64 0)).drew;rw[NR _ _ _ i hi,EP _ _ _ i hi,Gt _ _ _ i hi,Pq,eF m i H.o]at h;exact h
end Nd
end Go.Proofs.YtjobajeggllmiaaGreat
