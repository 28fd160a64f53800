import Derived.Test.YtjobajeggllmiaaGreatPc0
import Derived.Test.YtjobajeggllmiaaGreatPc46
set_option linter.all false
set_option maxHeartbeats 100000000
set_option maxRecDepth 100000
namespace Go.Proofs.YtjobajeggllmiaaGreat
open Rg _root_.Go.Proofs.Tryz
namespace Op
open Go.ChangeShapes Go.WideShapes Go.ChangeAt Go.RowKit Mem
section
variable {H : Type} (enc : TypeId × Value -> H) (P : Program) (w : World) (base : Nat) (spare : Nat -> Bool) (held : Bool)
end
section
variable {H : Type} {enc : TypeId × Value -> H} {P : Program} {w : World} {base : Nat} {spare : Nat -> Bool} {held : Bool}
end
def nO{cs:Array Value}{l:List Value}(h:cs.toList=l):cs=l.toArray:=by subst h;simp
end Op
namespace Nd
open Go.RowKit Mem Rws
def Mq(k i:Nat):Value:=if i<4 then .bool (decide (i<k))else .int .i64 0
def Wv(w:World):Calls prog 94 #[] w fun e w'=>e=.returned (.agg (row 12 Je))/\Below w.heap.size w w':=by
 go_in
 go_wp2_with fail
 go_loopw[3] (fun i wr=>∃k:Nat,k<=4/\i=.int .i64 k/\Ae wr w.heap.size 30 (row 12 (Mq 0))/\Ae wr (w.heap.size+1) 30 (row 12 (Mq k))/\Below w.heap.size w wr) (fun i _=>4-(intOf i).toNat)
 .exact⟨0,Aa,rfl,(Ae.new rfl).alloc _,Ae.new Bq,(DC).alloc Bq _⟩
 obtain⟨k,T,rfl,V,X,hb⟩:=hrel
 by_cases Z:k<4
 .have U:=X.cell k;have R:=X.thaw k
  rw[Ah Aa,show Mq k k=.bool (decide (k<k))by unfold Mq;rw[Ao Z]]at U
  go_wp2_with fail;refine⟨⟨k+1,Aa,BG,V.other Bq _,?_,hb.setCell Bq _⟩,Ck⟩;have:=X.set k (.bool true);rw[Di,AA (g:=Mq (k+1)) (fun i hi=>?_)]at this
  . exact this
  unfold Mq
  by_cases e:i=k
  . subst e;rw[Ao rfl,Ao Z];simp
  rw[Aj e]
  by_cases Y:i<4
  . rw[Ao Y,Ao Y];congr 1;simp;omega
  rw[Aj Y,Aj Y]
 obtain rfl:k=4:=Aa;clear Z
 go_wp2_with(first
  |(refine Ad rfl 30 _ rfl (w.heap.size+1) rfl X _ underlying30 rfl Eg ?_)
  |(refine wpList_store_row rfl 30 _ _ rfl w.heap.size (row 12 (Mq 4)) rfl rfl 30 _ V Eg (by rw[Ag,Ag]) (row_one fun i hi=>by unfold Mq;split<;>rfl) ?_))
 refine Fs rfl rfl (V.setRow _) underlying30 rfl Eg rfl ⟨?_,below_setRow hb Nr _⟩
 rw[AA (f:=Mq 4) (g:=Je) (fun i hi=>by unfold Mq Je;split<;>simp[*])]
end Nd
namespace Nd
open Go.RowKit Mem Rws
def Sy(w:World):Calls prog 95 #[.int .i64 0] w fun e w'=>e=.returned (.agg (row 7 Fj))/\Below w.heap.size w w':=by
 go_in
 go_wp2
 refine bodyPost_ret (v:=.agg (row 7 Fj)) (by simp[results,Tryz.results95,go_sem];rfl) rfl ⟨rfl,?_⟩;exact DC
end Nd
namespace Nd
open Go.RowKit Mem Rws
def Rn(id X V U Y:Int)(w:World)(h0:0<=id)(h1:id<4):
  Calls prog 65 #[.int .i64 id,.agg (Bn X V U Y)] w fun e w'=>e=.returned (.tuple #[.agg (row 74 (Cq id X V U Y 3)),.int .i64 0])/\Below w.heap.size w w':=by
 go_in
 go_upto_region 3 with fail
 go_cut[6] (fun v p=>∃g,v=.pointer (some ⟨g,0,none⟩)/\w.heap.size+1<g/\Ae p g 37 (row 74 (Cq id X V U Y 0))/\Ae p (w.heap.size+1) 37 (row 74 JM)/\Below w.heap.size w p)
 case first=>
  have D:=zz (QK id X V U Y);have D3:Hid (Ae ((w.alloc (.cells (Bn X V U Y) 23)).alloc (.cells zeroCells37 37)) w.heap.size 23 (Bn X V U Y)):=zz ((Ae.new rfl).alloc _);have N:Hid (Ae ((w.alloc (.cells (Bn X V U Y) 23)).alloc (.cells zeroCells37 37)) (w.heap.size+1) 37 (row 74 JM)):=zz (by rw[IL];exact Ae.new Bq);have T:=zz (((Below.refl w.heap.size w).alloc Nr (.cells (Bn X V U Y) 23)).alloc Bq (.cells zeroCells37 37));have A:((w.alloc (.cells (Bn X V U Y) 23)).alloc (.cells zeroCells37 37)).heap.size=w.heap.size+1+1:=Bq
  generalize((w.alloc (.cells (Bn X V U Y) 23)).alloc (.cells zeroCells37 37))=b at*
  have T:=zz T.o.drew;have N:=zz N.o.drew;have D3:=zz D3.o.drew;have c:b.drew.heap.size=w.heap.size+1+1:=A;have L:=And.intro (D3.o.cell 0) (And.intro (D3.o.cell 1) (And.intro (D3.o.cell 2) (D3.o.cell 3)));refine wp_region_noPanic ?_;refine A8 [1] (fun w'=> w'.cell? ⟨w.heap.size,0,none⟩=some (.int .i64 X)/\ w'.cell? ⟨w.heap.size,1,none⟩=some (.int .i64 V)/\ w'.cell? ⟨w.heap.size,2,none⟩=some (.int .i64 U)/\ w'.cell? ⟨w.heap.size,3,none⟩=some (.int .i64 Y)) Ap ?_;refine Rg.tp 0 ⟨some 15,.move (.tmp 0),_,_,_,none⟩ (v:=?_) rfl ?_ ?_;rotate_left 1
  . (intro w;(try(have B:=D.o));(have z:(row 12 Je).size=12:=Ag _ _);go_simp;(try with_reducible rfl))
  refine Bc 1 L ?_;refine XY (i:=2) (j:=4) (oi:=⟨some 17,.call { callee:=.value (.func 94),args:=#[],argTypes:=_ },_,_,_,none⟩) (oj:=⟨some 6,.alloc 37,_,_,_,none⟩) Ap rfl rfl ?_ ?_
  .refine Bt ?_;intro K hK;go_simp
   go_at_call 94
   refine(Wv _).mono ?_;rintro e J ⟨rfl,Z⟩;have T:=CU T Z;have m:=Z.size;have N:=AU N Z;have D3:=AU D3 Z;have L:=And.intro (D3.o.cell 0) (And.intro (D3.o.cell 1) (And.intro (D3.o.cell 2) (D3.o.cell 3)));clear Z;go_wp2_with fail;refine hK.o _ _ L ?_;(try simp only[Rg.lp]);refine Rg.tp 3 ⟨some 18,.build 37 #[(0,.tmp 15),(2,.tmp 16),(4,.tmp 17)],_,_,_,none⟩ (v:=?_) rfl ?_ ?_;rotate_left 1
   . (intro w;(try(have B:=D.o));(have z:(row 12 Je).size=12:=Ag _ _);go_simp;(try with_reducible rfl))
   refine Aw 4 ?_;refine Bt ?_;intro K hK;go_simp;have N:=zz (N.o.alloc (.cells zeroCells37 37));have I:Hid (Ae (J.alloc (.cells zeroCells37 37)) J.heap.size 37 zeroCells37):=zz (Ae.fresh _ _ _);have T:=zz (T.o.alloc T.o.size (.cells zeroCells37 37));have D3:=zz (D3.o.alloc (.cells zeroCells37 37));have L:=And.intro (D3.o.cell 0) (And.intro (D3.o.cell 1) (And.intro (D3.o.cell 2) (D3.o.cell 3)));refine hK.o _ _ L ?_;refine Aw 5 ?_;refine AX ?_ ?_
   . kernel_rfl
   intro K hK;rw[Ao Bb];refine wp_store_row 37 _ _ rfl J.heap.size (row 74 (Cq id X V U Y 0)) rfl rfl 37 zeroCells37 I.o Eg (by rw[IL,Ag,Ag]) (row_one fun i _=>FP _ _ _ _ _ _ i) ?_;refine hK.o _ _ ?_;(try simp only[Rg.lp]);refine Bg Ap ?_ _;refine NoPanic.normal ?_;have q:w.heap.size+1<J.heap.size:=Aa;have G1:=zz (I.o.setRow (row 74 (Cq id X V U Y 0)));have G2:=zz (N.o.setRow_other (g':=J.heap.size) Aa (row 74 (Cq id X V U Y 0)))
   have G3:=zz (below_setRow T.o (show w.heap.size<=J.heap.size by omega) (row 74 (Cq id X V U Y 0)))
   clear L D3 N I T;go_wp2_with fail
   go_meet
   exact⟨_,rfl,q,G1.o,G2.o,G3.o⟩
  refine Bt ?_;intro K hK;go_simp;have N:=zz (N.o.alloc (.cells zeroCells37 37));have I:Hid (Ae (b.drew.alloc (.cells zeroCells37 37)) (w.heap.size+1+1) 37 zeroCells37):=zz (Ae.new c.symm);have T:=zz (T.o.alloc T.o.size (.cells zeroCells37 37));have D3:=zz (D3.o.alloc (.cells zeroCells37 37));have L:=And.intro (D3.o.cell 0) (And.intro (D3.o.cell 1) (And.intro (D3.o.cell 2) (D3.o.cell 3)));refine hK.o _ _ L ?_;refine Aw 2 ?_;refine Bt ?_;intro K hK;go_simp
  go_at_call 94
  refine(Wv _).mono ?_;rintro e J ⟨rfl,Z⟩;have T:=CU T Z;have m:=Z.size;have N:=AU N Z;have I:=AU I Z;have D3:=AU D3 Z;have L:=And.intro (D3.o.cell 0) (And.intro (D3.o.cell 1) (And.intro (D3.o.cell 2) (D3.o.cell 3)));clear Z;go_wp2_with fail;refine hK.o _ _ L ?_;(try simp only[Rg.lp]);refine Rg.tp 3 ⟨some 18,.build 37 #[(0,.tmp 15),(2,.tmp 16),(4,.tmp 17)],_,_,_,none⟩ (v:=?_) rfl ?_ ?_;rotate_left 1
  . (intro w;(try(have B:=D.o));(have z:(row 12 Je).size=12:=Ag _ _);go_simp;(try with_reducible rfl))
  refine Aw 5 ?_;refine AX ?_ ?_
  . kernel_rfl
  intro K hK;rw[Ao Bb];refine wp_store_row 37 _ _ rfl (w.heap.size+1+1) (row 74 (Cq id X V U Y 0)) rfl rfl 37 zeroCells37 I.o Eg (by rw[IL,Ag,Ag]) (row_one fun i _=>FP _ _ _ _ _ _ i) ?_;refine hK.o _ _ ?_;(try simp only[Rg.lp]);refine Bg Ap ?_ _;refine NoPanic.normal ?_;have q:w.heap.size+1<(w.heap.size+1+1):=Aa;have G1:=zz (I.o.setRow (row 74 (Cq id X V U Y 0)));have G2:=zz (N.o.setRow_other (g':=(w.heap.size+1+1)) Aa (row 74 (Cq id X V U Y 0)))
  have G3:=zz (below_setRow T.o (show w.heap.size<=(w.heap.size+1+1)by omega) (row 74 (Cq id X V U Y 0)))
  clear L D3 N I T;go_wp2_with fail
  go_meet
  exact⟨_,rfl,q,G1.o,G2.o,G3.o⟩
 obtain⟨g,rfl,q,s,y,hb⟩:=hcut;go_wp2_with fail
 go_loopw[19] (fun i wr=>∃k:Nat,k<=3/\i=.int .i64 k/\Ae wr g 37 (row 74 (Cq id X V U Y k))/\Ae wr (w.heap.size+1) 37 (row 74 JM)/\Below w.heap.size w wr) (fun i _=>3-(intOf i).toNat)
 .exact⟨0,Aa,rfl,s,y,hb⟩
 clear s y hb;obtain⟨k,hk,rfl,s,y,hb⟩:=hrel;have f:=zz s;have d:=zz y;have T:=zz hb;clear s y hb
 by_cases t:k<3
 .go_wp2_with fail;refine(Sy _).mono ?_;rintro e J ⟨rfl,Z⟩;have u:=AU f Z;have n:=AU d Z;have l:=CU T Z;have G:=Cg u.o (6+k*7) 7 Aa;clear Z;have x:(prog.info? 25).map (·.size)=some (row 7 Fj).size:=Eg
  have G:J.there g (6+k*7) (row 7 Fj).size:=by rw[Ag];exact G
  have r:(row 7 Fj).all (·.oneCell')=true:=row_one fun i _=>MK i;obtain⟨R,O⟩:=AJ (row 7 Fj);have C:=zz O;rw[O]at x G r ⊢;clear O
  go_wp2_with(refine Af rfl (fun K hK=>?_);refine wp_store_mid 25 _ _ rfl g (6+k*7) R rfl rfl G x r (hK _ _ ?_))
  rw[←C.o];refine⟨⟨k+1,Aa,BG,?_,Al (w:=J) Aa _ _ _ n.o,below_setCells Aa _ _ l.o⟩,Ck⟩;have:=DI u.o (6+k*7) 7 Fj;rw[AA (fun i _=>Rh id X V U Y k t i)]at this;exact this
 obtain rfl:k=3:=Aa;clear t;have M:(prog.info? 37).map (·.size)=some (row 74 (Cq id X V U Y 3)).size:=Eg;have E:(row 74 (Cq id X V U Y 3)).all (·.oneCell')=true:=row_one fun i _=>FP _ _ _ _ _ _ i
 have F:(row 74 JM).size=(row 74 (Cq id X V U Y 3)).size:=by rw[Ag,Ag]
 obtain⟨R,O⟩:=AJ (row 74 (Cq id X V U Y 3));have C:=zz O;rw[O]at f M E F;clear O
 go_wp2_with(first
  |(refine Ad rfl 37 _ rfl g rfl f.o _ underlying37 rfl M ?_)
  |(refine wpList_store_row rfl 37 _ _ rfl (w.heap.size+1) R rfl rfl 37 _ d.o M F E ?_))
 exact Ci rfl rfl rfl (d.o.setRow R) ⟨by rw[underlying37],M⟩ rfl ⟨by rw[C.o];rfl,below_setRow T.o Aa _⟩
end Nd
namespace BigW
open Go.RowKit Mem BigLaw
def Sy(x:Int)(w:World):Calls prog 95 #[.int .i64 x] w fun e w'=>e=.returned (SI ⟨x,0,4294967296,0,4294967296,false,0⟩)/\Below w.heap.size w w':=by
 unfold SI ME
 go_in
 go_wp2
 refine bodyPost_ret (v:=.agg (AZ x 0 4294967296 0 4294967296 false 0)) (by simp[results,Tryz.results95,go_sem]) rfl ⟨rfl,?_⟩;exact DC
end BigW
namespace Cf
open Go.ChangeShapes Go.WideShapes Go.ChangeAt Go.RowKit Mem Go.Proofs.YtjobajeggllmiaaGreat.Op Rws Nd Cl
section
variable {H : Type} {enc : TypeId × Value -> H} {W : World} {base : Nat} {spare : Nat -> Bool} {held : Bool}
end
def Wj{H:Type}{enc:TypeId×Value->H}{W:World}{base:Nat}{v:Value}{d:DataW H}{F:List MemPlace}(D:Value.okWide prog W .any base 49 v)(h:DataW.Trod enc prog W 0 (fun _=>true) true 49 v d F)(hl:Op.Light prog 49 d):
  ∃(A:Option Addr) (c:Nat) (Y:List He),v=.slice A Y.length c/\Y.length<=c/\c*128<=140737488351232/\(A=none->c=0)/\Gn W W.heap.size A Y/\∀x∈Y,((∀i,i<12->Wf (x.rd i))/\Wf x.bad)/\(∀l∈x.ls,Wf l.p/\Wf l.t)/\x.ls.length*40<=140737488351232:=by
 obtain⟨G,V,U,rfl⟩:=okWide_slice underlying49 D;obtain⟨B,y⟩:=h;obtain⟨A,n,c,Y,e,C,k,z,u,s,o⟩:=Op.Leaf.slice (enc:=enc) (held:=true) (base:=0) (spare:=fun _=>true) (w:=W) (v:=.slice G V U) (le:=[3,3,3,3,3,3,3,3,3,3,3,3,3,41]) underlying49 Ap Ap Bq (fun _=>rfl) ⟨B,_,y,hl⟩
 rw[show prog.bytesOf 43=128 from by kernel_rfl]at z
 obtain⟨f,O⟩:=Deep.choose_lt (n:=n) (fun i hi=>in_of_cells (fun _=>rfl) (o i hi));rw[e];have Z:((List.range n).map f).length=n:=Bq;have m:reachBytes=140737488351232:=El;refine⟨A,c,(List.range n).map f,by rw[Z],by rw[Z];exact C,Aa,u,⟨Y,by rw[Z];exact s,fun i x X=>?_⟩,fun x X=>?_⟩
 .have hi:i<n:=by have:=(List.getElem?_eq_some_iff.1 X).1;simpa using this
  simp[hi]at X
  subst X;obtain⟨T,R,M,J,N,r,L,_⟩:=O i hi;exact⟨T,R,M,J,N,Aa,L⟩
 obtain⟨i,hi,rfl⟩:=List.mem_map.1 X;obtain⟨T,R,M,J,N,r,L,q,I,E⟩:=O i (List.mem_range.1 hi);exact⟨⟨q,I⟩,E,Aa⟩
end Cf
namespace Nd
open Go.RowKit Mem Rws Flat
def UW(Y X V Z:Int)(w:World):
  Calls prog 33 #[.agg (Bn Y X V Z)] w fun e w'=>e=.returned (.agg (row 297 (Gw Y X V Z 4)))/\Below w.heap.size w w':=by
 go_in
 go_wp2_with fail;have F:Hid (Ae (((w.alloc (.cells (Bn Y X V Z) 23)).alloc (.cells zeroCells40 40)).alloc (.cells zeroCells40 40)) w.heap.size 23 (Bn Y X V Z)):=zz (((Ae.new rfl).alloc _).alloc _);have L:Hid (Ae (((w.alloc (.cells (Bn Y X V Z) 23)).alloc (.cells zeroCells40 40)).alloc (.cells zeroCells40 40)) (w.heap.size+1) 40 (row 297 (Gw Y X V Z 0))):=zz (by rw[IG Y X V Z];exact(Ae.new Bq).alloc _);have D3:Hid (Ae (((w.alloc (.cells (Bn Y X V Z) 23)).alloc (.cells zeroCells40 40)).alloc (.cells zeroCells40 40)) (w.heap.size+1+1) 40 (row 297 (Gw Y X V Z 0))):=zz (by rw[IG Y X V Z];exact Ae.new Bq);have I:=zz (((((Below.refl w.heap.size w).alloc Nr (.cells (Bn Y X V Z) 23)).alloc Bq (.cells zeroCells40 40)).alloc Ec (.cells zeroCells40 40)))
 generalize(((w.alloc (.cells (Bn Y X V Z) 23)).alloc (.cells zeroCells40 40)).alloc (.cells zeroCells40 40))=W at*
 go_loopw[5] (fun i wr=>∃k:Nat,k<=4/\i=.int .i64 k/\Ae wr w.heap.size 23 (Bn Y X V Z)/\Ae wr (w.heap.size+1) 40 (row 297 (Gw Y X V Z 0))/\Ae wr (w.heap.size+1+1) 40 (row 297 (Gw Y X V Z k))/\Below w.heap.size w wr) (fun i _=>4-(intOf i).toNat)
 .exact⟨0,Aa,rfl,F.o,L.o,D3.o,I.o⟩
 clear F L D3 I;obtain⟨k,p,rfl,J,v,x,hb⟩:=hrel;have F:=zz J;have L:=zz v;have D3:=zz x;have I:=zz hb;have C:=J.cell 0;have D:=J.cell 1;have E:=J.cell 2;have A:=J.cell 3;simp only[List.getElem?_toArray,List.getElem?_cons_zero,List.getElem?_cons_succ]at C D E A;clear J v x hb
 by_cases z:k<4
 .go_wp2_with fail;refine(Rn (k:Int) Y X V Z _ Aa Aa).mono ?_;rintro e y ⟨rfl,T⟩;have r:=AU F T;have q:=AU L T;have t:=AU D3 T;have B:=CU I T;have O:(prog.info? 37).map (·.size)=some (row 74 (Cq (k:Int) Y X V Z 3)).size:=Eg
  have G:y.there (w.heap.size+1+1) (1+k*74) (row 74 (Cq (k:Int) Y X V Z 3)).size:=by rw[Ag];exact Cg t.o (1+k*74) 74 Aa
  have N:(row 74 (Cq (k:Int) Y X V Z 3)).all (·.oneCell')=true:=row_one fun i _=>FP _ _ _ _ _ _ i;obtain⟨R,U⟩:=AJ (row 74 (Cq (k:Int) Y X V Z 3));have M:=zz U;rw[U]at O G N ⊢;clear U T C D E A
  go_wp2_with(refine Af rfl (fun K hK=>?_);refine wp_store_mid 37 _ _ rfl (w.heap.size+1+1) (1+k*74) R rfl rfl G O N (hK _ _ ?_))
  rw[←M.o];refine⟨⟨k+1,Aa,BG,Al (w:=y) Aa _ _ _ r.o,Al (w:=y) Aa _ _ _ q.o,?_,below_setCells Aa _ _ B.o⟩,Ck⟩;have:=DI t.o (1+k*74) 74 (Cq (k:Int) Y X V Z 3);rw[AA (fun i _=>SE Y X V Z k i)]at this;exact this
 obtain rfl:k=4:=Aa;clear z C D E A;have hi:(prog.info? 40).map (·.size)=some (row 297 (Gw Y X V Z 4)).size:=Eg;have s:(row 297 (Gw Y X V Z 4)).all (·.oneCell')=true:=row_one fun i _=>U5 _ _ _ _ _ i
 have u:(row 297 (Gw Y X V Z 0)).size=(row 297 (Gw Y X V Z 4)).size:=by rw[Ag,Ag]
 obtain⟨R,U⟩:=AJ (row 297 (Gw Y X V Z 4));have M:=zz U;rw[U]at D3 hi s u;clear U
 go_wp2_with(first
  |(refine Ad rfl 40 _ rfl (w.heap.size+1+1) rfl D3.o _ underlying40 rfl hi ?_)
  |(refine wpList_store_row rfl 40 _ _ rfl (w.heap.size+1) R rfl rfl 40 _ L.o hi u s ?_))
 exact Fs rfl rfl (L.o.setRow R) underlying40 rfl hi rfl ⟨by rw[M.o],below_setRow I.o Aa _⟩
end Nd
namespace Cf
open Go.ChangeShapes Go.WideShapes Go.ChangeAt Go.RowKit Mem Rws Nd Cl
def Jh.wider{w:World}{c:Du}{T:Nat->Option Addr}{Z:Nat->Nat}{X Y:Nat->Prop}(h:Jh w c T Z X)(N:∀b,b<w.heap.size->Y b->X b):Jh w c T Z Y:=fun j L=>by
 obtain⟨O,R,V,M⟩:=h j L;exact⟨O,R,V,fun U a e hy=>M U a e (N _ (FV V U e) hy)⟩
def Iy.wider{w:World}{cs:List Value}{Z:Nat->Du}{n:Nat}{X Y:Nat->Prop}(h:Iy w cs Z n X)(N:∀b,b<w.heap.size->Y b->X b):Iy w cs Z n Y:=fun j O=>by
 obtain⟨U,V,R,T⟩:=h j O;exact⟨U,V,R,T.wider N⟩
def KF.wider{w:World}{os:List Value}{Z:Nat->List Value×Nat}{n:Nat}{X Y:Nat->Prop}(h:KF w os Z n X)(M:∀b,b<w.heap.size->Y b->X b):KF w os Z n Y:=fun j I=>by
 obtain⟨T,O,N,R,L,U,J⟩:=h j I;exact⟨T,O,N,R,L,U,fun V a e hy=>J V a e (M _ (FV U V e) hy)⟩
def Hy{w:World}{base:Nat}{e t:TypeId}{size n g:Nat}{v:Value}{T:List Value}{cs:Array Value}(h:w.ownsRow base e size v n T)(hb:Ae w g t cs)(U:e≠t):v.ownBlock≠some g:=fun Y=>by
 obtain⟨V,t',Z,X⟩:=Ms.Fb h U g Y
 unfold Ae at hb
 rw[hb]at Z
 injection Z with Z
 injection Z with _ Z _
 exact X Z.symm
def WZ(X:Nat->Prop)(o:Option Nat)(b:Nat):Prop:=X b\/o=some b
def UN{X:Nat->Prop}{o Y:Option Nat}{N:Nat}(h:o=Y\/o=some N)(V:∀b,Y=some b->X b):∀b,b<N->WZ X o b->X b:=fun b hb Z=>by
 rcases Z with Z|Z
 . exact Z
 rcases h with h|h
 . exact V b (h.symm.trans Z)
 rw[h]at Z;injection Z with Z;omega
end Cf
namespace Cf
open Go.ChangeShapes Go.WideShapes Go.ChangeAt Go.RowKit Mem Rws Nd Cl
def Oo(bad:Int):0<(Bz bad 4).length:=by
 show 0<((Bz bad 2++if((2:Nat):Int)=bad then []else [2])++if((3:Nat):Int)=bad then []else [3]).length
 by_cases Z:((3:Nat):Int)=bad
 .have Y:¬((2:Nat):Int)=bad:=Aa;rw[Aj Y,List.length_append,List.length_append];simp only[List.length_cons,List.length_nil];omega
 rw[Aj Z,List.length_append];simp
def WY(V Y:Nat)(Z:Option Addr)(n X:Nat)(b:Nat):Prop:=(b=V\/b=Y)\/(Value.slice Z n X).ownBlock=some b
def Om{Z:Int}:∀ {n i:Nat},i∈Bz Z n->i<n/\(i:Int)≠Z
 |0,i,h=>absurd h (by unfold Bz;simp)
 |n+1,i,h=>by
  unfold Bz at h
  rcases List.mem_append.1 h with h|h
  . exact⟨by have:=(Om h).1;omega,(Om h).2⟩
  split at h
  . simp at h
  rename_i hb
  simp at h
  subst h;exact⟨Aa,hb⟩
def Vn(c:Du)(x:He)(U:Gi (next c x)):∀u∈Gy c x 4,u.oneCell'=true:=by
 intro u Y
 unfold Gy at Y
 obtain⟨i,hi,Y⟩:=List.mem_flatMap.1 Y;obtain⟨Z,X⟩:=Om hi;have V:=U.ok i Z
 rw[show(next c x).F i=G6 c x i from by show F6 c x i=_;unfold F6;rw[DV Z X]]at V
 have h:=Pj V;rw[Array.all_eq_true']at h;exact h u (by simpa using Y)
end Cf
namespace Cf
open Go.ChangeShapes Go.WideShapes Go.ChangeAt Go.RowKit Mem Rws Nd Cl
structure pQ where
 c:Du
 L:List Value
 n:Nat
 k:Int
noncomputable def UF:List He->Du->List Value->Nat->pQ
 |[],c,L,n=>⟨c,L,n,0⟩
 |x::xs,c,L,n=>if codeOf c x=0 then UF xs (next c x) (L++Gy c x 4) (n+(Bz x.bad 4).length)else⟨Ld,[],0,codeOf c x⟩
noncomputable def I5(Y X V U:Int)(Z:List He):pQ:=if 200<Z.length then⟨Ld,[],0,6⟩else UF Z (Bw Y X V U) [] 0
def J4(L:List Value)(n:Nat):Prop:=L.length=n*14/\∀k,k<n->∃g:Nat->Value,(∀i,i<14->L[k*14+i]?=some (EQ g i))/\∀i,i<73->C9 (Ar i) (g i)
def J4.nil:J4 [] 0:=⟨rfl,fun k Z=>absurd Z Aa⟩
def J4.app{L M:List Value}{n m:Nat}(Z:J4 L n)(X:J4 M m):J4 (L++M) (n+m):=by
 refine⟨by rw[List.length_append,Z.1,X.1];omega,fun k V=>?_⟩
 by_cases h:k<n
 .obtain⟨g,Y,hb⟩:=Z.2 k h;exact⟨g,fun i hi=>by rw[List.getElem?_append_left (by rw[Z.1];omega)];exact Y i hi,hb⟩
 obtain⟨g,Y,hb⟩:=X.2 (k-n) Aa;refine⟨g,fun i hi=>?_,hb⟩
 rw[List.getElem?_append_right (by rw[Z.1];omega),Z.1,show k*14+i-n*14=(k-n)*14+i by omega]
 exact Y i hi
def Va(g:Nat->Nat->Value):∀Z:List Nat,(Z.flatMap fun i=>(row 14 (EQ (g i))).toList).length=Z.length*14
 |[]=>rfl
 |a::Z=>by
  rw[List.flatMap_cons,List.length_append,Va g Z,Array.length_toList,Ag,List.length_cons];omega
def lS{c:Du}{x:He}(Y:Gi c):J4 (Gy c x 4) (Bz x.bad 4).length:=
 ⟨Va _ _,fun k Z=>⟨G6 c x ((Bz x.bad 4).getD k 0),fun i hi=>Px (G6 c x) (Bz x.bad 4) k i Z hi,WV (YA (x:=x) Y 5 Aa) _ (SA x.bad 4 k Z).1⟩⟩
def Gi.typ{c:Du}(h:Gi c):l5 c:=⟨h.ok,h.wf,h.v⟩
def jm:∀(Z:List He) (c:Du) (L:List Value) (n:Nat),Gi c->c.fr+(Z.length:Int)<1073741824->(∀x∈Z,∀i,i<12->Wf (x.rd i))->J4 L n->
  (∀i,i<4->∀j,j<73->C9 (Ar j) ((UF Z c L n).c.F i j))/\(∀i,i<4->((UF Z c L n).c.V i).length<=140737488351232)/\J4 (UF Z c L n).L (UF Z c L n).n/\(UF Z c L n).n<=n+4*Z.length
 |[],c,L,n,hs,_,_,hr=>⟨hs.ok,hs.v,hr,Nat.le_add_right _ _⟩
 |x::Z,c,L,n,hs,hf,hx,hr=>by
  unfold UF
  rw[List.length_cons]at hf
  by_cases h:codeOf c x=0
  .rw[Ao h]
   have Y:=jm Z (next c x) (L++Gy c x 4) (n+(Bz x.bad 4).length) (Ls hs (hx x (List.mem_cons_self ..)) Aa) (by show c.fr+1+(Z.length:Int)<_;omega) (fun y hy=>hx y (List.mem_cons_of_mem _ hy)) (hr.app (lS hs))
   refine⟨Y.1,Y.2.1,Y.2.2.1,Nat.le_trans Y.2.2.2 ?_⟩;have:=Hl x.bad 4;rw[List.length_cons];omega
  rw[Aj h]
  refine⟨fun i _ j _=>?_,fun i _=>by show([]:List Bool).length<=_;simp,J4.nil,Nat.zero_le _⟩
  show C9 (Ar j) (Qk j)
  unfold Qk
  cases Ar j
  . exact⟨false,rfl⟩
  exact⟨0,rfl⟩
def mV{X U T Y:Int}(N:Wf X/\Wf U/\Wf T/\Wf Y){Z:List He}(O:∀x∈Z,∀i,i<12->Wf (x.rd i)):
  (∀i,i<4->∀j,j<73->C9 (Ar j) ((I5 X U T Y Z).c.F i j))/\(∀i,i<4->((I5 X U T Y Z).c.V i).length<=140737488351232)/\J4 (I5 X U T Y Z).L (I5 X U T Y Z).n/\(I5 X U T Y Z).n<=800:=by
 unfold I5
 by_cases h:200<Z.length
 .rw[Ao h]
  refine⟨fun i _ j _=>?_,fun i _=>by show([]:List Bool).length<=_;simp,J4.nil,Nat.zero_le _⟩
  show C9 (Ar j) (Qk j)
  unfold Qk
  cases Ar j
  . exact⟨false,rfl⟩
  exact⟨0,rfl⟩
 rw[Aj h]
 have R:=jm Z (Bw X U T Y) [] 0 (Ko N) (by show(0:Int)+(Z.length:Int)<_;omega) O J4.nil
 exact⟨R.1,R.2.1,R.2.2.1,Nat.le_trans R.2.2.2 Aa⟩
def Kk(lo:Nat){w w':World}(hb:Below w.heap.size w w')(k:Int):Qg lo w w' Ld 0 [] k (.returned (.tuple #[.agg zeroCells40,.slice none 0 0,.int .i64 k])):=
 ⟨fun _=>none,fun _=>0,none,0,by rw[NG],fun i _=>⟨fun _=>rfl,by show([]:List Bool).length<=_;simp,Rd.nil _ _ _ _⟩,Rd.nil _ _ _ _,hb,fun i _ Z=>absurd Z (by show ¬0<([]:List Bool).length;simp),fun a e=>by cases e⟩
def WW(lo V Y:Nat)(Z:Option Addr)(n X b:Nat):Prop:=b<lo\/WY V Y Z n X b
def nZ(s:Du)(Y:Nat->Option Addr)(lo:Nat)(a:Addr):Prop:=(∃j Z,j<4/\0<(s.V j).length/\Y j=some Z/\Z.block=a.block)\/lo<=a.block
def TM(c:Du)(x:He)(O:l5 c)(J:∀i,i<12->Wf (x.rd i))(Z:Nat->Option Addr)(X:Nat->Nat)(U:Option Addr)(M:Nat)(w:World)(hv:∀i,i<4->(Z i=none->X i=0)/\(c.V i).length<=X i/\Rd w w.heap.size 1 (Z i) (c.V i).length (Au (c.V i)))(hls:Co w w.heap.size U x.ls):
  Calls prog 8 #[.agg (row 297 (Ak c.fr c.F (AO Z c.V X))),.agg (row 14 (BP x.rd x.bad (.slice U x.ls.length M)))] w fun e w'=>∃T N Y y,e=.returned (.tuple #[.agg (row 297 (Ak (Bd c x).fr (Bd c x).F (AO T (Bd c x).V N))),.slice Y (Rj c x) y,.int .i64 (codeOf c x)])
   /\(∀i,i<4->(T i=none->N i=0)/\((Bd c x).V i).length<=N i/\Rd w' w'.heap.size 1 (T i) ((Bd c x).V i).length (Au ((Bd c x).V i))/\(0<((Bd c x).V i).length->∀a,T i=some a->nZ c Z w.heap.size a))/\Rd w' w'.heap.size 14 Y (Rj c x) (WE c x)/\(∀a,Y=some a->w.heap.size<=a.block)/\Below w.heap.size w w':=by
 by_cases h:codeOf c x=0
 .obtain⟨D,hb,z⟩:=Ic O h;refine(NI c x D hb J z Z X U M w hv hls).mono ?_;rintro e w' ⟨G,L,Y,C,E,I,R,B⟩
  unfold Bd Rj WE
  rw[Ao h,Ao h,Ao h,h];exact⟨G,L,Y,C,E,I,Rd.Bu R,Db R,B⟩
 refine(O1 c x O.ok Z X U M w _ (Pd O h)).mono ?_;rintro e w' ⟨I,R⟩
 unfold Bd Rj WE
 rw[Aj h,Aj h,Aj h]
 exact⟨fun _=>none,fun _=>0,none,0,by rw[I,NG],fun i _=>⟨fun _=>rfl,by show([]:List Bool).length<=_;simp,Rd.nil _ _ _ _,fun A=>absurd A (by show ¬0<([]:List Bool).length;simp)⟩,Rd.nil _ _ _ _,(fun a e=>by cases e),R⟩
def ow{s:Du}{R Z:Nat->Option Addr}{U:Nat->Nat}{w':World}{V:Nat->List Bool}{T:Option Addr}{n lo X Y:Nat}(M:∀j,j<4->0<(s.V j).length->∀a,R j=some a->a.block<lo)(h1:∀i,i<4->(Z i=none->U i=0)/\(V i).length<=U i/\Rd w' w'.heap.size 1 (Z i) (V i).length (Au (V i))/\(0<(V i).length->∀a,Z i=some a->nZ s R X a))(h2:∀a,T=some a->X<=a.block)(h3:lo<=Y)(h4:Y<X):
  (∀i,i<4->0<(V i).length->∀a,Z i=some a->a.block≠Y)/\(0<n->∀a,T=some a->a.block≠Y):=
 ⟨fun i hi L a e=>by
  rcases(h1 i hi).2.2.2 L a e with⟨j,N,J,O,I,G⟩|h
  . have:=M j J O N I;omega
  omega,fun _ a e=>by have:=h2 a e;omega⟩
def Qz{V:Nat->List Bool}{Y:Nat->Option Addr}{X:Option Addr}{n lo Z:Nat}(T:∀i,i<4->0<(V i).length->∀a,Y i=some a->lo<=a.block)(U:∀a,X=some a->lo<=a.block)(h:Z<lo):(∀i,i<4->0<(V i).length->∀a,Y i=some a->a.block≠Z)/\(0<n->∀a,X=some a->a.block≠Z):=
 ⟨fun i hi R a e=>by have:=T i hi R a e;omega,fun _ a e=>by have:=U a e;omega⟩
def LG{w:World}{V:Nat->List Bool}{Y:Nat->Option Addr}{X:Option Addr}{n:Nat}{L:List Value}(T:∀i,i<4->Rd w w.heap.size 1 (Y i) (V i).length (Au (V i)))(U:Rd w w.heap.size 14 X n L):(∀i,i<4->0<(V i).length->∀a,Y i=some a->a.block≠w.heap.size)/\(0<n->∀a,X=some a->a.block≠w.heap.size):=
 ⟨fun i hi Z a e=>Nat.ne_of_lt (FV (T i hi) Z e),fun Z a e=>Nat.ne_of_lt (FV U Z e)⟩
def bW{w w':World}{b o:Nat}{L:List Value}(h:w.rangeAt b o L)(hb:Below w.heap.size w w')(Y:b<w.heap.size):w'.rangeAt b o L:=fun j v Z=>(hb.cell (p:=⟨b,o+j,none⟩) Y).trans (h j v Z)
def lT{w:World}{B size n b o:Nat}{Z:List Value}(h:Rd w B size (some ⟨b,o,none⟩) n Z)(T:0<n):∀j u,Z[j]?=some u-> w.cell? (Addr.add ⟨b,o,none⟩ j)=some u:=fun j u U=>by
 obtain⟨b',R,e,_,X⟩:=h.2 T
 injection e with e
 injection e with V Y
 subst V Y;rw[Addr.add_lit];exact X j u U
def jL{lo V Z n T m Y:Nat}{U X:Option Addr}{N:Nat}:∀b,b<N->WW lo V Z X m Y b->WZ (WW lo V Z U n T) (Value.slice X m Y).ownBlock b:=fun b _ h=>by
 rcases h with h|h|h
 . exact .inl (.inl h)
 . exact .inl (.inr (.inl h))
 exact .inr h
def qd{lo Z X n V:Nat}{Y:Option Addr}:∀g,some Z=some g->WW lo Z X Y n V g:=fun g e=>.inr (.inl (.inl (by injection e with e;exact e.symm)))
end Cf
end Go.Proofs.YtjobajeggllmiaaGreat
