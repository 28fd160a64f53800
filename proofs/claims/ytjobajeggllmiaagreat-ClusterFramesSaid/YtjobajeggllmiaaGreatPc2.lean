import Derived.Test.YtjobajeggllmiaaGreatPc0
import Derived.Deep.DeepCutAuto
import Derived.Test.YtjobajeggllmiaaGreatPc1
set_option linter.all false
set_option maxHeartbeats 100000000
set_option maxRecDepth 100000
namespace Go.Proofs.YtjobajeggllmiaaGreat
open Rg _root_.Go.Proofs.Tryz
namespace Nd
open Go.RowKit Mem Rws Flat
def Au(Z:List Bool):List Value:=Z.map Value.bool
def Oc(Z:List Bool)(k:Nat)(Y:k<Z.length):(Au Z)[k]?=some (.bool Z[k]):=by simp[Au,Y]
def MX(Z:List Bool):∀u∈Au Z,u.oneCell'=true:=fun u Y=>by
 obtain⟨z,_,rfl⟩:=List.mem_map.1 Y;rfl
def Gx(v:Int)(s:Bool)(A:Option Addr)(n c:Nat):Array Value:=(PX v s A n c)
def O6(v:Int)(s:Bool)(A R:Option Addr)(c U:Nat)(Z:List Bool)(B:Nat)(w:World)(E:B<=w.heap.size)(hl:Z.length<=140737488355328)(G:Rd w B 1 A Z.length (Au Z))(O:Rd w B 1 R Z.length (Au Z)):
  Calls prog 64 #[.agg (Gx v s A Z.length c),.agg (Gx v s R Z.length U)] w fun e w'=>e=.returned (.bool true)/\Below w.heap.size w w':=by
 have g:=zz ((G.alloc E (.cells (Gx v s A Z.length c) 35)).alloc Ec (.cells (Gx v s R Z.length U) 35));have J:=zz ((O.alloc E (.cells (Gx v s A Z.length c) 35)).alloc Ec (.cells (Gx v s R Z.length U) 35));have n:=zz (((Below.refl w.heap.size w).alloc Nr (.cells (Gx v s A Z.length c) 35)).alloc Bq (.cells (Gx v s R Z.length U) 35));have p:(v !=v)=false:=Bq;have r:(s !=s)=false:=Bq;clear G O
 unfold Gx at*
 go_in
 go_wp2_with fail
 generalize H:((w.alloc (.cells (PX v s A Z.length c) 35)).alloc (.cells (PX v s R Z.length U) 35))=W at*
 have L: W.cell? ⟨w.heap.size,2,none⟩=some (.slice A Z.length c):=by rw[←H];exact((Ae.new rfl).alloc _).cell 2
 have M: W.cell? ⟨w.heap.size+1,2,none⟩=some (.slice R Z.length U):=by rw[←H];exact(Ae.new Bq).cell 2
 clear H;have D:=zz L;have F:=zz M;clear L M
 go_loopw[30] (fun i wr=>∃k q:Nat,k<=Z.length/\i=.int .i64 k/\wr=W.drewN q) (fun i _=>Z.length-(intOf i).toNat)
 .exact⟨0,0,Aa,rfl,rfl⟩
 obtain⟨k,q,f,rfl,rfl⟩:=hrel
 by_cases V:k<Z.length
 .obtain⟨b,o,u,rfl,y,I,X⟩:=g.o.at V;obtain⟨b',N,u',rfl,C,T,Y⟩:=J.o.at V;rw[Oc Z k V]at I T;obtain rfl:=Option.some.inj I;obtain rfl:=Option.some.inj T
  generalize Z[k]=z at*
  clear I T;have j:(0:Int)<=(k:Int):=Aa;have m:(k:Int)<(Z.length:Int):=Aa;have X:(W.drewN q).cell? ⟨b,o+k,none⟩=some (.bool z):=X;have Y:(W.drewN q).cell? ⟨b',N+k,none⟩=some (.bool z):=Y;have L:(W.drewN q).cell? ⟨w.heap.size,2,none⟩=some (.slice (some ⟨b,o,none⟩) Z.length c):=D.o;have M:(W.drewN q).cell? ⟨w.heap.size+1,2,none⟩=some (.slice (some ⟨b',N,none⟩) Z.length U):=F.o;have l:(z !=z)=false:=Bq;have c4: W.cell? ⟨w.heap.size,2,none⟩=some (.slice (some ⟨b,o,none⟩) Z.length c):=D.o;have d: W.cell? ⟨w.heap.size+1,2,none⟩=some (.slice (some ⟨b',N,none⟩) Z.length U):=F.o;have x: W.cell? ⟨b,o+k,none⟩=some (.bool z):=X;have t: W.cell? ⟨b',N+k,none⟩=some (.bool z):=Y;go_wp2_with fail
  go_quiet (fail)
  go_wp2_with fail;exact⟨⟨k+1,q+nq,Aa,BG,rfl⟩,Ck⟩
 obtain rfl:k=Z.length:=Aa;clear V;go_wp2_with fail
 go_ret
 exact⟨rfl,below_drewN n.o _⟩
def Ar(i:Nat):Bool:= !(i==11||i==18||i==25||i==27||i==28||i==29||i==30||i==72)
def C9(b:Bool)(v:Value):Prop:=match b with|true=>∃n,v=Value.int .i64 n|false=>∃c,v=Value.bool c
def Ab(f:Nat->Value)(S:Value)(i:Nat):Value:=if i=73 then S else f i
def Gm:∀(ls:List Bool) (o:Nat) (f:Nat->Value),(∀i (h:i<ls.length),C9 ls[i] (f (o+i)))->Typed ls ((List.range ls.length).map fun j=>f (o+j))
 |[],_,_,_=>trivial
 |b::ls,o,f,h=>by
  rw[List.length_cons,List.range_succ_eq_map,List.map_cons,List.map_map];refine⟨?_,?_⟩
  .have:=h 0 Bq;simp only[List.getElem_cons_zero,C9]at this
   cases b
   . exact this
   obtain⟨n,Z⟩:=this;exact⟨_,n,Z⟩
  have:=Gm ls (o+1) f fun i hi=>by
   have:=h (i+1) (by simpa using hi)
   rw[show o+(i+1)=o+1+i by omega]at this
   simpa using this
  refine(congrArg (Typed ls) (List.map_congr_left fun j _=>?_)).mp this
  show f (o+1+j)=f (o+(j+1))
  congr 1;omega
section
variable {P : Program} {ops : Array Oper} {rest : List Oper} {o : Oper} {a : Act} {w : World} {Q : Exit -> Act -> World -> Prop}
def CO(Z:Region.wanted o (yielded ops a.tmps)=true)(ty:TypeId)(x:Operand)(Y:o.op=.load ty x)(b off m:Nat)(hx:a.eval x=.pointer (some ⟨b,off,none⟩)){t:TypeId}{f:Nat->Value}{S:Value}(hb:Ae w b t (row 74 (Ab f S)))(hm:off+m<=73)(d:TypeDesc)(hu:P.underlying ty=some d)(hd:d.isRow=true)(hi:(P.info? ty).map (·.size)=some m)(h:wpList P ops Q rest (a.put o.dst (.agg (row m fun j=>f (off+j)))) w):wpList P ops Q (o::rest) a w:=by
 refine Cb Z ty x Y b off m hx hb Aa d hu hd hi ?_;rw[AA (f:=fun j=>Ab f S (off+j)) (g:=fun j=>f (off+j)) (fun i hi=>by unfold Ab;rw[Aj Aa])];exact h
end
def Jf{f:Nat->Value}(h:∀i,i<73->C9 (Ar i) (f i)){ls:List Bool}{o:Nat}(Y:(List.range ls.length).all (fun i=>decide (o+i<73)&&(ls.getD i true==Ar (o+i)))=true):∀i (hi:i<ls.length),C9 ls[i] (f (o+i)):=fun i hi=>by
 have Z:=List.all_eq_true.1 Y i (List.mem_range.2 hi);simp only[Bool.and_eq_true,decide_eq_true_eq,beq_iff_eq]at Z
 have e:ls.getD i true=ls[i]:=by simp[List.getD,hi]
 rw[←e,Z.2];exact h _ Z.1
def TJ(f:Nat->Value)(R:∀i,i<73->C9 (Ar i) (f i))(A V:Option Addr)(c U:Nat)(Z:List Bool)(B:Nat)(w:World)(u:B<=w.heap.size)(hl:Z.length<=140737488355328)(y:Rd w B 1 A Z.length (Au Z))(L:Rd w B 1 V Z.length (Au Z)):
  Calls prog 32 #[.agg (row 74 (Ab f (.slice A Z.length c))),.agg (row 74 (Ab f (.slice V Z.length U)))] w fun e w'=>e=.returned (.bool true)/\Below w.heap.size w w':=by
 have M:=zz R;obtain⟨i0,N⟩:=R 0 Aa;obtain⟨i1,O⟩:=R 1 Aa;obtain⟨k,T⟩:=R 70 Aa;obtain⟨v,D⟩:=R 71 Aa;obtain⟨s,F⟩:=R 72 Aa;have HR:=zz ((y.alloc u (.cells (row 74 (Ab f (.slice A Z.length c))) 37)).alloc Ec (.cells (row 74 (Ab f (.slice V Z.length U))) 37));have H:=zz ((L.alloc u (.cells (row 74 (Ab f (.slice A Z.length c))) 37)).alloc Ec (.cells (row 74 (Ab f (.slice V Z.length U))) 37));have HL:=zz (((Below.refl w.heap.size w).alloc Nr (.cells (row 74 (Ab f (.slice A Z.length c))) 37)).alloc Bq (.cells (row 74 (Ab f (.slice V Z.length U))) 37));have X:Hid (Ae ((w.alloc (.cells (row 74 (Ab f (.slice A Z.length c))) 37)).alloc (.cells (row 74 (Ab f (.slice V Z.length U))) 37)) w.heap.size 37 (row 74 (Ab f (.slice A Z.length c)))):=zz ((Ae.new rfl).alloc _);have Y:Hid (Ae ((w.alloc (.cells (row 74 (Ab f (.slice A Z.length c))) 37)).alloc (.cells (row 74 (Ab f (.slice V Z.length U))) 37)) (w.heap.size+1) 37 (row 74 (Ab f (.slice V Z.length U)))):=zz (Ae.new Bq);have G:B<=((w.alloc (.cells (row 74 (Ab f (.slice A Z.length c))) 37)).alloc (.cells (row 74 (Ab f (.slice V Z.length U))) 37)).heap.size:=Ec
 have cell:∀ {z:World} {g:Nat} {t:TypeId} {S x:Value} {i:Nat},i<74->Ae z g t (row 74 (Ab f S))->Ab f S i=x-> z.cell? ⟨g,i,none⟩=some x:=fun hi hb m=>by rw[hb.cell,Ah hi,m]
 have a0:=cell Aa X.o (show Ab f _ 0=_ from N)
 have a1:=cell Aa X.o (show Ab f _ 1=_ from O)
 have q:=cell Aa X.o (show Ab f _ 70=_ from T)
 have l:=cell Aa X.o (show Ab f _ 71=_ from D)
 have p:=cell Aa X.o (show Ab f _ 72=_ from F)
 have J:=cell (i:=73) Aa X.o rfl
 have b0:=cell Aa Y.o (show Ab f _ 0=_ from N)
 have b1:=cell Aa Y.o (show Ab f _ 1=_ from O)
 have r:=cell Aa Y.o (show Ab f _ 70=_ from T)
 have n:=cell Aa Y.o (show Ab f _ 71=_ from D)
 have b:=cell Aa Y.o (show Ab f _ 72=_ from F)
 have I:=cell (i:=73) Aa Y.o rfl
 rw[show Ab f (.slice A Z.length c) 73=.slice A Z.length c from rfl]at J
 rw[show Ab f (.slice V Z.length U) 73=.slice V Z.length U from rfl]at I
 clear R N O T D F cell y L
 generalize hW:((w.alloc (.cells (row 74 (Ab f (.slice A Z.length c))) 37)).alloc (.cells (row 74 (Ab f (.slice V Z.length U))) 37))=W at*
 go_in
 go_upto_region 1 with fail
 clear hW;refine wp_region_list ?_;simp only[List.cons_append,List.nil_append,List.append_eq];refine Af Bb (fun K hK=>?_);go_simp;refine hK _ _ ?_;(try simp only[Rg.lp]);refine Af Bb (fun K hK=>?_);go_simp;refine hK _ _ ?_;(try simp only[Rg.lp]);refine Af Bb (fun K hK=>?_);go_simp;refine hK _ _ ?_;(try simp only[Rg.lp]);refine Af Bb (fun K hK=>?_);go_simp;refine hK _ _ ?_;(try simp only[Rg.lp]);refine Af Bb (fun K hK=>?_);go_simp;refine hK _ _ ?_;(try simp only[Rg.lp]);refine Af Bb (fun K hK=>?_);go_simp;refine hK _ _ ?_;(try simp only[Rg.lp]);refine Af Bb (fun K hK=>?_);go_simp;refine hK _ _ ?_;(try simp only[Rg.lp]);refine Af Bb (fun K hK=>?_);go_simp;refine hK _ _ ?_;(try simp only[Rg.lp]);refine Af Bb (fun K hK=>?_);go_simp;refine hK _ _ ?_;(try simp only[Rg.lp]);refine Af Bb (fun K hK=>?_);go_simp;refine hK _ _ ?_;(try simp only[Rg.lp]);refine Af Bb (fun K hK=>?_);go_simp;refine hK _ _ ?_;(try simp only[Rg.lp]);refine Af Bb (fun K hK=>?_);go_simp;refine hK _ _ ?_;(try simp only[Rg.lp]);refine Af Bb (fun K hK=>?_);go_simp;refine hK _ _ ?_;(try simp only[Rg.lp]);refine Af Bb (fun K hK=>?_)
 go_simp;refine hK _ _ ?_;(try simp only[Rg.lp]);refine CO Bb 23 _ rfl w.heap.size 2 4 rfl X.o Aa _ underlying23 rfl Ap ?_;(try simp only[Rg.lp]);refine Af Bb (fun K hK=>?_);go_simp;refine hK _ _ ?_;(try simp only[Rg.lp]);refine CO Bb 23 _ rfl (w.heap.size+1) 2 4 rfl Y.o Aa _ underlying23 rfl Ap ?_;(try simp only[Rg.lp]);refine Gg Bb 23 _ _ _ rfl (d:=20) (ls:=[true,true,true,true]) Ap Aa underlying23 rfl Ap Ap (fun j=>f (2+j)) rfl rfl (Gm [true,true,true,true] 2 f (Jf M.o El)) ?_;(try simp only[Rg.lp]);refine Af Bb (fun K hK=>?_);go_simp;refine hK _ _ ?_;(try simp only[Rg.lp]);refine Af Bb (fun K hK=>?_);go_simp;refine hK _ _ ?_;(try simp only[Rg.lp]);refine Af Bb (fun K hK=>?_);go_simp;refine hK _ _ ?_;(try simp only[Rg.lp]);refine CO Bb 26 _ rfl w.heap.size 6 21 rfl X.o Aa _ underlying26 rfl Ap ?_;(try simp only[Rg.lp]);refine Af Bb (fun K hK=>?_);go_simp;refine hK _ _ ?_;(try simp only[Rg.lp]);refine CO Bb 26 _ rfl (w.heap.size+1) 6 21 rfl Y.o Aa _ underlying26 rfl Ap ?_;(try simp only[Rg.lp]);refine Gg Bb 26 _ _ _ rfl (d:=20) (ls:=[true,true,true,true,true,false,true,true,true,true,true,true,false,true,true,true,true,true,true,false,true]) Ap Aa underlying26 rfl Ap Ap (fun j=>f (6+j)) rfl rfl (Gm [true,true,true,true,true,false,true,true,true,true,true,true,false,true,true,true,true,true,true,false,true] 6 f (Jf M.o El)) ?_
 (try simp only[Rg.lp]);refine Af Bb (fun K hK=>?_);go_simp;refine hK _ _ ?_;(try simp only[Rg.lp]);refine Af Bb (fun K hK=>?_);go_simp;refine hK _ _ ?_;(try simp only[Rg.lp]);refine Af Bb (fun K hK=>?_);go_simp;refine hK _ _ ?_;(try simp only[Rg.lp]);refine CO Bb 30 _ rfl w.heap.size 27 12 rfl X.o Aa _ underlying30 rfl Ap ?_;(try simp only[Rg.lp]);refine Af Bb (fun K hK=>?_);go_simp;refine hK _ _ ?_;(try simp only[Rg.lp]);refine CO Bb 30 _ rfl (w.heap.size+1) 27 12 rfl Y.o Aa _ underlying30 rfl Ap ?_;(try simp only[Rg.lp]);refine Gg Bb 30 _ _ _ rfl (d:=20) (ls:=[false,false,false,false,true,true,true,true,true,true,true,true]) Ap Aa underlying30 rfl Ap Ap (fun j=>f (27+j)) rfl rfl (Gm [false,false,false,false,true,true,true,true,true,true,true,true] 27 f (Jf M.o El)) ?_;(try simp only[Rg.lp]);refine Af Bb (fun K hK=>?_);go_simp;refine hK _ _ ?_;(try simp only[Rg.lp]);refine Af Bb (fun K hK=>?_);go_simp;refine hK _ _ ?_;(try simp only[Rg.lp]);refine Af Bb (fun K hK=>?_);go_simp;refine hK _ _ ?_;(try simp only[Rg.lp]);refine CO Bb 32 _ rfl w.heap.size 39 12 rfl X.o Aa _ underlying32 rfl Ap ?_;(try simp only[Rg.lp]);refine Af Bb (fun K hK=>?_)
 go_simp;refine hK _ _ ?_;(try simp only[Rg.lp]);refine CO Bb 32 _ rfl (w.heap.size+1) 39 12 rfl Y.o Aa _ underlying32 rfl Ap ?_;(try simp only[Rg.lp]);refine Gg Bb 32 _ _ _ rfl (d:=20) (ls:=[true,true,true,true,true,true,true,true,true,true,true,true]) Ap Aa underlying32 rfl Ap Ap (fun j=>f (39+j)) rfl rfl (Gm [true,true,true,true,true,true,true,true,true,true,true,true] 39 f (Jf M.o El)) ?_;(try simp only[Rg.lp]);refine Af Bb (fun K hK=>?_);go_simp;refine hK _ _ ?_;(try simp only[Rg.lp]);refine Af Bb (fun K hK=>?_);go_simp;refine hK _ _ ?_;(try simp only[Rg.lp]);refine Af Bb (fun K hK=>?_);go_simp;refine hK _ _ ?_;(try simp only[Rg.lp]);refine CO Bb 28 _ rfl w.heap.size 51 4 rfl X.o Aa _ underlying28 rfl Ap ?_;(try simp only[Rg.lp]);refine Af Bb (fun K hK=>?_);go_simp;refine hK _ _ ?_;(try simp only[Rg.lp]);refine CO Bb 28 _ rfl (w.heap.size+1) 51 4 rfl Y.o Aa _ underlying28 rfl Ap ?_;(try simp only[Rg.lp]);refine Gg Bb 28 _ _ _ rfl (d:=20) (ls:=[true,true,true,true]) Ap Aa underlying28 rfl Ap Ap (fun j=>f (51+j)) rfl rfl (Gm [true,true,true,true] 51 f (Jf M.o El)) ?_;(try simp only[Rg.lp]);refine Af Bb (fun K hK=>?_);go_simp;refine hK _ _ ?_
 (try simp only[Rg.lp]);refine Af Bb (fun K hK=>?_);go_simp;refine hK _ _ ?_;(try simp only[Rg.lp]);refine Af Bb (fun K hK=>?_);go_simp;refine hK _ _ ?_;(try simp only[Rg.lp]);refine CO Bb 32 _ rfl w.heap.size 55 12 rfl X.o Aa _ underlying32 rfl Ap ?_;(try simp only[Rg.lp]);refine Af Bb (fun K hK=>?_);go_simp;refine hK _ _ ?_;(try simp only[Rg.lp]);refine CO Bb 32 _ rfl (w.heap.size+1) 55 12 rfl Y.o Aa _ underlying32 rfl Ap ?_;(try simp only[Rg.lp]);refine Gg Bb 32 _ _ _ rfl (d:=20) (ls:=[true,true,true,true,true,true,true,true,true,true,true,true]) Ap Aa underlying32 rfl Ap Ap (fun j=>f (55+j)) rfl rfl (Gm [true,true,true,true,true,true,true,true,true,true,true,true] 55 f (Jf M.o El)) ?_;(try simp only[Rg.lp]);refine Af Bb (fun K hK=>?_);go_simp;refine hK _ _ ?_;(try simp only[Rg.lp]);refine Af Bb (fun K hK=>?_);go_simp;refine hK _ _ ?_;(try simp only[Rg.lp]);refine Af Bb (fun K hK=>?_);go_simp;refine hK _ _ ?_;(try simp only[Rg.lp]);refine CO Bb 31 _ rfl w.heap.size 67 3 rfl X.o Aa _ underlying31 rfl Ap ?_;(try simp only[Rg.lp]);refine Af Bb (fun K hK=>?_);go_simp;refine hK _ _ ?_;(try simp only[Rg.lp]);refine CO Bb 31 _ rfl (w.heap.size+1) 67 3 rfl Y.o Aa _ underlying31 rfl Ap ?_
 (try simp only[Rg.lp]);refine Gg Bb 31 _ _ _ rfl (d:=20) (ls:=[true,true,true]) Ap Aa underlying31 rfl Ap Ap (fun j=>f (67+j)) rfl rfl (Gm [true,true,true] 67 f (Jf M.o El)) ?_;(try simp only[Rg.lp]);refine Af Bb (fun K hK=>?_);go_simp;refine hK _ _ ?_;(try simp only[Rg.lp]);refine Af Bb (fun K hK=>?_);go_simp;refine hK _ _ ?_;(try simp only[Rg.lp]);refine Af Bb (fun K hK=>?_);go_simp;refine hK _ _ ?_;(try simp only[Rg.lp]);refine Af Bb (fun K hK=>?_);go_simp;refine hK _ _ ?_;(try simp only[Rg.lp]);refine Af Bb (fun K hK=>?_);go_simp;refine hK _ _ ?_;(try simp only[Rg.lp]);refine Af Bb (fun K hK=>?_);go_simp;refine hK _ _ ?_;(try simp only[Rg.lp]);refine Af Bb (fun K hK=>?_);go_simp;refine hK _ _ ?_;(try simp only[Rg.lp]);refine Af Bb (fun K hK=>?_);go_simp;refine hK _ _ ?_;(try simp only[Rg.lp]);refine Af Bb (fun K hK=>?_);go_simp;refine hK _ _ ?_;(try simp only[Rg.lp]);refine Af Bb (fun K hK=>?_);go_simp;refine hK _ _ ?_;(try simp only[Rg.lp]);refine Af Bb (fun K hK=>?_);go_simp;refine hK _ _ ?_;(try simp only[Rg.lp]);refine Af Bb (fun K hK=>?_);go_simp;refine hK _ _ ?_
 (try simp only[Rg.lp]);refine Af Bb (fun K hK=>?_);go_simp;refine hK _ _ ?_;(try simp only[Rg.lp]);refine Af Bb (fun K hK=>?_);go_simp
 go_at_call 64
 refine(O6 v s A V c U Z B _ G hl HR.o H.o).mono ?_;rintro e w1 ⟨rfl,C⟩;have E:=CU HL C;go_wp2_with fail
 go_ret
 exact⟨rfl,E.o⟩
end Nd
namespace Nd
open Go.RowKit Mem Rws
def Ub(id X W V Y:Int)(w:World)(b:0<=id)(h1:id<4):
  Calls prog 31 #[.int .i64 id,.agg (Bn X W V Y)] w fun e w'=>e=.returned (.tuple #[.agg (row 74 (Cq id X W V Y 3)),.int .i64 0])/\Below w.heap.size w w':=by
 go_in
 go_upto_region 3 with fail
 go_cut[6] (fun v r=>∃g,v=.pointer (some ⟨g,0,none⟩)/\w.heap.size+1<g/\Ae r g 37 (row 74 (Cq id X W V Y 0))/\Ae r (w.heap.size+1) 37 (row 74 JM)/\Below w.heap.size w r)
 case first=>
  have F:=zz (QK id X W V Y);have D3:Hid (Ae ((w.alloc (.cells (Bn X W V Y) 23)).alloc (.cells zeroCells37 37)) w.heap.size 23 (Bn X W V Y)):=zz ((Ae.new rfl).alloc _);have O:Hid (Ae ((w.alloc (.cells (Bn X W V Y) 23)).alloc (.cells zeroCells37 37)) (w.heap.size+1) 37 (row 74 JM)):=zz (by rw[IL];exact Ae.new Bq);have U:=zz (((Below.refl w.heap.size w).alloc Nr (.cells (Bn X W V Y) 23)).alloc Bq (.cells zeroCells37 37));have C:((w.alloc (.cells (Bn X W V Y) 23)).alloc (.cells zeroCells37 37)).heap.size=w.heap.size+1+1:=Bq
  generalize((w.alloc (.cells (Bn X W V Y) 23)).alloc (.cells zeroCells37 37))=d at*
  have U:=zz U.o.drew;have O:=zz O.o.drew;have D3:=zz D3.o.drew;have f:d.drew.heap.size=w.heap.size+1+1:=C;have M:=And.intro (D3.o.cell 0) (And.intro (D3.o.cell 1) (And.intro (D3.o.cell 2) (D3.o.cell 3)));refine wp_region_noPanic ?_;refine A8 [1] (fun w'=> w'.cell? ⟨w.heap.size,0,none⟩=some (.int .i64 X)/\ w'.cell? ⟨w.heap.size,1,none⟩=some (.int .i64 W)/\ w'.cell? ⟨w.heap.size,2,none⟩=some (.int .i64 V)/\ w'.cell? ⟨w.heap.size,3,none⟩=some (.int .i64 Y)) Ap ?_;refine Rg.tp 0 ⟨some 15,.move (.tmp 0),_,_,_,none⟩ (v:=?_) rfl ?_ ?_;rotate_left 1
  . (intro w;(try(have D:=F.o));(have B:(row 12 Je).size=12:=Ag _ _);go_simp;(try with_reducible rfl))
  refine Bc 1 M ?_;refine XY (i:=2) (j:=4) (oi:=⟨some 17,.call { callee:=.value (.func 62),args:=#[],argTypes:=_ },_,_,_,none⟩) (oj:=⟨some 6,.alloc 37,_,_,_,none⟩) Ap rfl rfl ?_ ?_
  .refine Bt ?_;intro K hK;go_simp
   go_at_call 62
   refine(OY _).mono ?_;rintro e L ⟨rfl,Z⟩;have U:=CU U Z;have p:=Z.size;have O:=AU O Z;have D3:=AU D3 Z;have M:=And.intro (D3.o.cell 0) (And.intro (D3.o.cell 1) (And.intro (D3.o.cell 2) (D3.o.cell 3)));clear Z;go_wp2_with fail;refine hK.o _ _ M ?_;(try simp only[Rg.lp]);refine Rg.tp 3 ⟨some 18,.build 37 #[(0,.tmp 15),(2,.tmp 16),(4,.tmp 17)],_,_,_,none⟩ (v:=?_) rfl ?_ ?_;rotate_left 1
   . (intro w;(try(have D:=F.o));(have B:(row 12 Je).size=12:=Ag _ _);go_simp;(try with_reducible rfl))
   refine Aw 4 ?_;refine Bt ?_;intro K hK;go_simp;have O:=zz (O.o.alloc (.cells zeroCells37 37));have J:Hid (Ae (L.alloc (.cells zeroCells37 37)) L.heap.size 37 zeroCells37):=zz (Ae.fresh _ _ _);have U:=zz (U.o.alloc U.o.size (.cells zeroCells37 37));have D3:=zz (D3.o.alloc (.cells zeroCells37 37));have M:=And.intro (D3.o.cell 0) (And.intro (D3.o.cell 1) (And.intro (D3.o.cell 2) (D3.o.cell 3)));refine hK.o _ _ M ?_;refine Aw 5 ?_;refine AX ?_ ?_
   . kernel_rfl
   intro K hK;rw[Ao Bb];refine wp_store_row 37 _ _ rfl L.heap.size (row 74 (Cq id X W V Y 0)) rfl rfl 37 zeroCells37 J.o Eg (by rw[IL,Ag,Ag]) (row_one fun i _=>FP _ _ _ _ _ _ i) ?_;refine hK.o _ _ ?_;(try simp only[Rg.lp]);refine Bg Ap ?_ _;refine NoPanic.normal ?_;have s:w.heap.size+1<L.heap.size:=Aa;have G1:=zz (J.o.setRow (row 74 (Cq id X W V Y 0)));have G2:=zz (O.o.setRow_other (g':=L.heap.size) Aa (row 74 (Cq id X W V Y 0)))
   have G3:=zz (below_setRow U.o (show w.heap.size<=L.heap.size by omega) (row 74 (Cq id X W V Y 0)))
   clear M D3 O J U;go_wp2_with fail
   go_meet
   exact⟨_,rfl,s,G1.o,G2.o,G3.o⟩
  refine Bt ?_;intro K hK;go_simp;have O:=zz (O.o.alloc (.cells zeroCells37 37));have J:Hid (Ae (d.drew.alloc (.cells zeroCells37 37)) (w.heap.size+1+1) 37 zeroCells37):=zz (Ae.new f.symm);have U:=zz (U.o.alloc U.o.size (.cells zeroCells37 37));have D3:=zz (D3.o.alloc (.cells zeroCells37 37));have M:=And.intro (D3.o.cell 0) (And.intro (D3.o.cell 1) (And.intro (D3.o.cell 2) (D3.o.cell 3)));refine hK.o _ _ M ?_;refine Aw 2 ?_;refine Bt ?_;intro K hK;go_simp
  go_at_call 62
  refine(OY _).mono ?_;rintro e L ⟨rfl,Z⟩;have U:=CU U Z;have p:=Z.size;have O:=AU O Z;have J:=AU J Z;have D3:=AU D3 Z;have M:=And.intro (D3.o.cell 0) (And.intro (D3.o.cell 1) (And.intro (D3.o.cell 2) (D3.o.cell 3)));clear Z;go_wp2_with fail;refine hK.o _ _ M ?_;(try simp only[Rg.lp]);refine Rg.tp 3 ⟨some 18,.build 37 #[(0,.tmp 15),(2,.tmp 16),(4,.tmp 17)],_,_,_,none⟩ (v:=?_) rfl ?_ ?_;rotate_left 1
  . (intro w;(try(have D:=F.o));(have B:(row 12 Je).size=12:=Ag _ _);go_simp;(try with_reducible rfl))
  refine Aw 5 ?_;refine AX ?_ ?_
  . kernel_rfl
  intro K hK;rw[Ao Bb];refine wp_store_row 37 _ _ rfl (w.heap.size+1+1) (row 74 (Cq id X W V Y 0)) rfl rfl 37 zeroCells37 J.o Eg (by rw[IL,Ag,Ag]) (row_one fun i _=>FP _ _ _ _ _ _ i) ?_;refine hK.o _ _ ?_;(try simp only[Rg.lp]);refine Bg Ap ?_ _;refine NoPanic.normal ?_;have s:w.heap.size+1<(w.heap.size+1+1):=Aa;have G1:=zz (J.o.setRow (row 74 (Cq id X W V Y 0)));have G2:=zz (O.o.setRow_other (g':=(w.heap.size+1+1)) Aa (row 74 (Cq id X W V Y 0)))
  have G3:=zz (below_setRow U.o (show w.heap.size<=(w.heap.size+1+1)by omega) (row 74 (Cq id X W V Y 0)))
  clear M D3 O J U;go_wp2_with fail
  go_meet
  exact⟨_,rfl,s,G1.o,G2.o,G3.o⟩
 obtain⟨g,rfl,s,u,A,hb⟩:=hcut;go_wp2_with fail
 go_loopw[7] (fun i wr=>∃k:Nat,k<=3/\i=.int .i64 k/\Ae wr g 37 (row 74 (Cq id X W V Y k))/\Ae wr (w.heap.size+1) 37 (row 74 JM)/\Below w.heap.size w wr) (fun i _=>3-(intOf i).toNat)
 .exact⟨0,Aa,rfl,u,A,hb⟩
 clear u A hb;obtain⟨k,c,rfl,u,A,hb⟩:=hrel;have m:=zz u;have l:=zz A;have U:=zz hb;clear u A hb
 by_cases x:k<3
 .go_wp2_with fail;refine(TB _).mono ?_;rintro e L ⟨rfl,Z⟩;have y:=AU m Z;have q:=AU l Z;have n:=CU U Z;have I:=Cg y.o (6+k*7) 7 Aa;clear Z;have z:(prog.info? 25).map (·.size)=some (row 7 Fj).size:=Eg
  have I:L.there g (6+k*7) (row 7 Fj).size:=by rw[Ag];exact I
  have t:(row 7 Fj).all (·.oneCell')=true:=row_one fun i _=>MK i;obtain⟨R,T⟩:=AJ (row 7 Fj);have E:=zz T;rw[T]at z I t ⊢;clear T
  go_wp2_with(refine Af rfl (fun K hK=>?_);refine wp_store_mid 25 _ _ rfl g (6+k*7) R rfl rfl I z t (hK _ _ ?_))
  rw[←E.o];refine⟨⟨k+1,Aa,BG,?_,Al (w:=L) Aa _ _ _ q.o,below_setCells Aa _ _ n.o⟩,Ck⟩;have:=DI y.o (6+k*7) 7 Fj;rw[AA (fun i _=>Rh id X W V Y k x i)]at this;exact this
 obtain rfl:k=3:=Aa;clear x;have N:(prog.info? 37).map (·.size)=some (row 74 (Cq id X W V Y 3)).size:=Eg;have G:(row 74 (Cq id X W V Y 3)).all (·.oneCell')=true:=row_one fun i _=>FP _ _ _ _ _ _ i
 have H:(row 74 JM).size=(row 74 (Cq id X W V Y 3)).size:=by rw[Ag,Ag]
 obtain⟨R,T⟩:=AJ (row 74 (Cq id X W V Y 3));have E:=zz T;rw[T]at m N G H;clear T
 go_wp2_with(first
  |(refine Ad rfl 37 _ rfl g rfl m.o _ underlying37 rfl N ?_)
  |(refine wpList_store_row rfl 37 _ _ rfl (w.heap.size+1) R rfl rfl 37 _ l.o N H G ?_))
 exact Ci rfl rfl rfl (l.o.setRow R) ⟨by rw[underlying37],N⟩ rfl ⟨by rw[E.o];rfl,below_setRow U.o Aa _⟩
end Nd
namespace Nd
open Go.RowKit Mem Rws Flat
def H9:Elem prog 33 4 (.bool false) 1 1:=⟨underlying33,Ap,rfl,Aa⟩
def Cv{f:Nat->Value}(h:∀i,i<73->C9 (Ar i) (f i)){A:Option Addr}{n c:Nat}:(row 74 (Ab f (.slice A n c))).all (·.oneCell')=true:=row_one fun i hi=>by
 unfold Ab
 split
 . rfl
 have:=h i Aa
 unfold C9 at this
 split at this
 . obtain⟨_,h⟩:=this;rw[h];rfl
 obtain⟨_,h⟩:=this;rw[h];rfl
def VK(f:Nat->Value)(S Z:Value):(row 74 (Ab f S)).setIfInBounds 73 Z=row 74 (Ab f Z):=by
 rw[Di];refine AA fun i _=>?_
 unfold Ab
 by_cases h:i=73
 . rw[Ao h,Ao h]
 rw[Aj h,Aj h,Aj h]
def Zj(w w':World)(f:Nat->Value)(Z:List Bool)(e:Ending):Prop:=
 ∃A c,e=.returned (.agg (row 74 (Ab f (.slice A Z.length c))))/\w'.ownsRow w.heap.size 4 1 (.slice A Z.length c) Z.length (Au Z)/\Below w.heap.size w w'
def Ho(f:Nat->Value)(I:∀i,i<73->C9 (Ar i) (f i))(A:Option Addr)(c:Nat)(Z:List Bool)(B:Nat)(w:World)(m:B<=w.heap.size)(x:A=none->c=0)(t:Z.length<=c)(hl:Z.length<=140737488351232)(C:Rd w B 1 A Z.length (Au Z)):
  Calls prog 36 #[.agg (row 74 (Ab f (.slice A Z.length c)))] w fun e w'=>Zj w w' f Z e:=by
 have V:∀(A:Option Addr) (n c:Nat),(row 74 (Ab f (.slice A n c))).all (·.oneCell')=true:=fun A n c=>Cv I;have s:=zz V;have b:=zz I;clear I V
 go_in
 go_upto_region 1 with fail
 have L:Hid (Ae ((w.alloc (.cells (row 74 (Ab f (.slice A Z.length c))) 37)).alloc (.cells zeroCells37 37)) w.heap.size 37 (row 74 (Ab f (.slice A Z.length c)))):=zz ((Ae.new rfl).alloc _);have z:Hid (Ae ((w.alloc (.cells (row 74 (Ab f (.slice A Z.length c))) 37)).alloc (.cells zeroCells37 37)) (w.heap.size+1) 37 zeroCells37):=zz (Ae.new Bq);have y:=zz (((Below.refl w.heap.size w).alloc Nr (.cells (row 74 (Ab f (.slice A Z.length c))) 37)).alloc Bq (.cells zeroCells37 37));have k:=zz ((C.alloc m (.cells (row 74 (Ab f (.slice A Z.length c))) 37)).alloc Ec (.cells zeroCells37 37));clear C
 generalize((w.alloc (.cells (row 74 (Ab f (.slice A Z.length c))) 37)).alloc (.cells zeroCells37 37))=W at*
 have r:w.heap.size+1<W.heap.size:=z.o.lt
 have H: W.cell? ⟨w.heap.size,73,none⟩=some (.slice A Z.length c):=by rw[L.o.cell,Ah Aa];rfl
 have E:=L.o.thaw 73
 go_upto_region 2 with(at_builtin;refine Aq _ rfl (.const (.slice none 0 0)) (.tmp 5) 33 rfl (base:=W.heap.size) H9 rfl (World.ownsRow_nil _ _ _ _) rfl (fun h=>⟨by have:=x h;omega,x h⟩) k.o (MX Z) GX Aa Nr ?_;intro O N l J X M;(try simp only[List.nil_append,Nat.zero_add]at X);have D:=zz (L.o.grown M (by simp[Value.ownBlock,Act.eval]));have j:=zz (z.o.grown M (by simp[Value.ownBlock,Act.eval]));have G:=zz (y.o.grown M y.o.size (by intro g e;cases e));have u: l.cell? ⟨w.heap.size,73,none⟩=some (.slice A Z.length c):=(by rw[D.o.cell,Ah Aa];rfl);have q:=D.o.thaw 73;have d:=zz X;clear H E X M J;have F1:=zz (D.o.set 73 (.slice O Z.length N));rw[VK]at F1;have F2:=zz (j.o.other (p:=⟨w.heap.size,73,none⟩) (by show w.heap.size+1≠w.heap.size;omega) (.slice O Z.length N));have Y:(prog.info? 37).map (·.size)=some (row 74 (Ab f (.slice O Z.length N))).size:=Eg;have v:(zeroCells37).size=(row 74 (Ab f (.slice O Z.length N))).size:=Eg;have U:=s.o O Z.length N;obtain⟨R,T⟩:∃R,row 74 (Ab f (.slice O Z.length N))=R:=⟨_,rfl⟩;have F:=zz T;rw[T]at F1 Y v U;clear T)
 go_wp2_with(first
  |(refine Ad rfl 37 _ rfl w.heap.size rfl F1.o _ underlying37 rfl Y ?_)
  |(refine wpList_store_row rfl 37 _ _ rfl (w.heap.size+1) R rfl rfl 37 _ F2.o Y v U ?_))
 refine Fs rfl rfl (F2.o.setRow R) underlying37 rfl Y rfl ⟨O,N,by rw[F.o],?_,?_⟩
 . exact Bf (Ay (ownsRow_setCell_below d.o (by show w.heap.size<W.heap.size;omega) _) Aa R) Aa
 exact below_setRow (G.o.setCell (by show w.heap.size<=w.heap.size;omega) _) Aa R
def Ey(f:Nat->Value)(I:∀i,i<73->C9 (Ar i) (f i))(A:Option Addr)(c:Nat)(Z:List Bool)(B:Nat)(w:World)(m:B<=w.heap.size)(x:A=none->c=0)(t:Z.length<=c)(hl:Z.length<=140737488351232)(C:Rd w B 1 A Z.length (Au Z)):
  Calls prog 22 #[.agg (row 74 (Ab f (.slice A Z.length c)))] w fun e w'=>Zj w w' f Z e:=by
 have V:∀(A:Option Addr) (n c:Nat),(row 74 (Ab f (.slice A n c))).all (·.oneCell')=true:=fun A n c=>Cv I;have s:=zz V;have b:=zz I;clear I V
 go_in
 go_upto_region 1 with fail
 have L:Hid (Ae ((w.alloc (.cells (row 74 (Ab f (.slice A Z.length c))) 37)).alloc (.cells zeroCells37 37)) w.heap.size 37 (row 74 (Ab f (.slice A Z.length c)))):=zz ((Ae.new rfl).alloc _);have z:Hid (Ae ((w.alloc (.cells (row 74 (Ab f (.slice A Z.length c))) 37)).alloc (.cells zeroCells37 37)) (w.heap.size+1) 37 zeroCells37):=zz (Ae.new Bq);have y:=zz (((Below.refl w.heap.size w).alloc Nr (.cells (row 74 (Ab f (.slice A Z.length c))) 37)).alloc Bq (.cells zeroCells37 37));have k:=zz ((C.alloc m (.cells (row 74 (Ab f (.slice A Z.length c))) 37)).alloc Ec (.cells zeroCells37 37));clear C
 generalize((w.alloc (.cells (row 74 (Ab f (.slice A Z.length c))) 37)).alloc (.cells zeroCells37 37))=W at*
 have r:w.heap.size+1<W.heap.size:=z.o.lt
 have H: W.cell? ⟨w.heap.size,73,none⟩=some (.slice A Z.length c):=by rw[L.o.cell,Ah Aa];rfl
 have E:=L.o.thaw 73
 go_upto_region 2 with(at_builtin;refine Aq _ rfl (.const (.slice none 0 0)) (.tmp 5) 33 rfl (base:=W.heap.size) H9 rfl (World.ownsRow_nil _ _ _ _) rfl (fun h=>⟨by have:=x h;omega,x h⟩) k.o (MX Z) GX Aa Nr ?_;intro O N l J X M;(try simp only[List.nil_append,Nat.zero_add]at X);have D:=zz (L.o.grown M (by simp[Value.ownBlock,Act.eval]));have j:=zz (z.o.grown M (by simp[Value.ownBlock,Act.eval]));have G:=zz (y.o.grown M y.o.size (by intro g e;cases e));have u: l.cell? ⟨w.heap.size,73,none⟩=some (.slice A Z.length c):=(by rw[D.o.cell,Ah Aa];rfl);have q:=D.o.thaw 73;have d:=zz X;clear H E X M J;have F1:=zz (D.o.set 73 (.slice O Z.length N));rw[VK]at F1;have F2:=zz (j.o.other (p:=⟨w.heap.size,73,none⟩) (by show w.heap.size+1≠w.heap.size;omega) (.slice O Z.length N));have Y:(prog.info? 37).map (·.size)=some (row 74 (Ab f (.slice O Z.length N))).size:=Eg;have v:(zeroCells37).size=(row 74 (Ab f (.slice O Z.length N))).size:=Eg;have U:=s.o O Z.length N;obtain⟨R,T⟩:∃R,row 74 (Ab f (.slice O Z.length N))=R:=⟨_,rfl⟩;have F:=zz T;rw[T]at F1 Y v U;clear T)
 go_wp2_with(first
  |(refine Ad rfl 37 _ rfl w.heap.size rfl F1.o _ underlying37 rfl Y ?_)
  |(refine wpList_store_row rfl 37 _ _ rfl (w.heap.size+1) R rfl rfl 37 _ F2.o Y v U ?_))
 refine Fs rfl rfl (F2.o.setRow R) underlying37 rfl Y rfl ⟨O,N,by rw[F.o],?_,?_⟩
 . exact Bf (Ay (ownsRow_setCell_below d.o (by show w.heap.size<W.heap.size;omega) _) Aa R) Aa
 exact below_setRow (G.o.setCell (by show w.heap.size<=w.heap.size;omega) _) Aa R
def Dt(id:Int):Bool:=decide (id<0)||decide (4<=id)
def Gu(R:Array Value)(id:Int)(V:R[0]?=some (.int .i64 id))(w:World):
  Calls prog 37 #[.agg R] w fun e w'=>e=.returned (.bool (Dt id))/\Below w.heap.size w w':=by
 have U:(w.alloc (.cells R 37)).cell? ⟨w.heap.size,0,none⟩=some (.int .i64 id):=by rw[(Ae.new (g:=w.heap.size) rfl).cell,V]
 by_cases X:id<0
 .have Z:=zz (show Dt id=true by simp[Dt,X])
  go_in
  go_wp2_with fail
  go_ret
  exact⟨by rw[Z.o];rfl,DC⟩
 by_cases Y:4<=id
 .have Z:=zz (show Dt id=true by simp[Dt,Y])
  have W:3<id:=Aa
  go_in
  go_wp2_with fail
  go_ret
  exact⟨by rw[Z.o];rfl,DC⟩
 have Z:=zz (show Dt id=false by simp[Dt,X,Y])
 have W:¬3<id:=Aa
 go_in
 go_wp2_with fail
 go_ret
 exact⟨by rw[Z.o];(first|rfl|simp[X,Y,W]),DC⟩
def JG(R:Array Value)(id:Int)(V:R[0]?=some (.int .i64 id))(w:World):
  Calls prog 51 #[.agg R] w fun e w'=>e=.returned (.bool (Dt id))/\Below w.heap.size w w':=by
 have U:(w.alloc (.cells R 37)).cell? ⟨w.heap.size,0,none⟩=some (.int .i64 id):=by rw[(Ae.new (g:=w.heap.size) rfl).cell,V]
 by_cases X:id<0
 .have Z:=zz (show Dt id=true by simp[Dt,X])
  go_in
  go_wp2_with fail
  go_ret
  exact⟨by rw[Z.o];rfl,DC⟩
 by_cases Y:4<=id
 .have Z:=zz (show Dt id=true by simp[Dt,Y])
  have W:3<id:=Aa
  go_in
  go_wp2_with fail
  go_ret
  exact⟨by rw[Z.o];rfl,DC⟩
 have Z:=zz (show Dt id=false by simp[Dt,X,Y])
 have W:¬3<id:=Aa
 go_in
 go_wp2_with fail
 go_ret
 exact⟨by rw[Z.o];(first|rfl|simp[X,Y,W]),DC⟩
def Mf(R:Array Value)(id Y Z:Int)(A:Option Addr)(l c:Nat)(W:R[0]?=some (.int .i64 id))(h1:R[1]?=some (.int .i64 Y))(w:World):
  Calls prog 38 #[.agg R,.int .i64 Z,.slice A l c] w fun e w'=>e=.returned (Ms.Jg Z id Y A l c)/\Below w.heap.size w w':=by
 have V:(w.alloc (.cells R 37)).cell? ⟨w.heap.size,0,none⟩=some (.int .i64 id):=by rw[(Ae.new (g:=w.heap.size) rfl).cell,W]
 have X:(w.alloc (.cells R 37)).cell? ⟨w.heap.size,1,none⟩=some (.int .i64 Y):=by rw[(Ae.new (g:=w.heap.size) rfl).cell,h1]
 have T:=(World.cell?_alloc_lt (w.alloc (.cells R 37)) (.cells QV 65) ⟨w.heap.size,0,none⟩ Bq).trans V;have U:=(World.cell?_alloc_lt (w.alloc (.cells R 37)) (.cells QV 65) ⟨w.heap.size,1,none⟩ Bq).trans X
 unfold Ms.Jg
 go_in
 go_wp2_with fail;exact Fs rfl rfl (Ae.new Bq) underlying65 rfl Ap rfl ⟨rfl,(DC).alloc Bq _⟩
end Nd
end Go.Proofs.YtjobajeggllmiaaGreat
