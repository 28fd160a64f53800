import Derived.Test.YtjobajeggllmiaaGreatPc0
import Derived.Shelf.SortM.Plain
import Derived.Shelf.SortM.SortNone
import Derived.Test.YtjobajeggllmiaaGreatPc15
set_option linter.all false
set_option maxHeartbeats 100000000
set_option maxRecDepth 100000
namespace Go.Proofs.YtjobajeggllmiaaGreat
open _root_.Go.Proofs.Tryz
namespace Nd
open Go.RowKit Mem Rws Flat Sm SumLaw Wr
def EF(f:Nat->Value):Int:=more 0 (vals (Fy f))
def qa(base:Nat)(w wr:World)(Z:List Int)(i:Nat)(Y:Value):Prop:=
 ∃(A:Option Addr) (c:Nat),Y=.slice A (8*i) c/\wr.ownsRow base 5 1 (.slice A (8*i) c) (8*i) (Br (vals (Z.take i)))/\Below base w wr
def jl(Z:List Int){i:Nat}(h:i<=Z.length):(vals (Z.take i)).length=8*i:=by rw[Jo,List.length_take];omega
def Yu(f:Nat->Value)(hf:∀i,i<73->C9 (Ar i) (f i))(S:Value)(w:World):
  Calls prog 44 #[.agg (row 74 (Ab f S))] w fun e w'=>e=.returned (.int .i64 (EF f))/\Below w.heap.size w w':=by
 have HF:=zz hf;have W:(prog.info? 37).map (·.size)=some (row 74 (Ab f S)).size:=Eg;have H1:=zz (Ae.fresh w 37 (row 74 (Ab f S)));have N:=zz ((Below.refl w.heap.size w).alloc Nr (.cells (row 74 (Ab f S)) 37));obtain⟨R,hR⟩:=AJ (row 74 (Ab f S));have HR:=zz hR;rw[hR]at W H1 N ⊢;clear hR hf
 go_in
 go_wp2_with(refine Ad rfl 37 _ rfl w.heap.size rfl H1.o _ underlying37 rfl W ?_)
 rw[←HR.o];refine(Qn f HF.o S _).mono ?_;rintro e k ⟨AP,cp,rfl,M,hb⟩;rw[HR.o]
 have HD:=zz (show EF f=more 0 (vals (Fy f))from rfl)
 have I:=Ep f;obtain⟨zs,F⟩:=AJ (Fy f);rw[F]at M HD I;have HP:=zz (Rd.Bu M);have HL:=zz I;have N:=zz (by rw[HR.o]at hb;exact Bh N.o Nr hb);clear M hb F I H1 W;go_wp2_with fail
 go_loopw[3,10] (fun sv B wr=>∃i:Nat,i<=24/\B=.int .i64 i/\qa k.heap.size k wr zs i sv) (fun _ B _=>24-(intOf B).toNat)
 .exact⟨0,Aa,rfl,none,0,rfl,World.ownsRow_nil _ _ _ _,Below.refl _ _⟩
 obtain⟨i,qV,rfl,A,c,rfl,Y,Z⟩:=hrel;have G:=zz Y;have t:=zz Z;clear Y Z
 by_cases U:i<24
 .obtain⟨b,o,u,rfl,qY,hu,p⟩:=(HP.o.below t.o).at U
  have T:i<zs.length:=by rw[HL.o];exact U
  rw[Ms.DJ zs i T]at hu;obtain rfl:=Option.some.inj hu;have HV:=zz (Lx zs i T)
  generalize zs[i]=v at*
  have qU:(0:Int)<=(i:Int):=Aa;have qZ:(i:Int)<24:=Aa;have HI:=zz U;have E:=zz (jl zs (Nat.le_of_lt T));clear hu T U;obtain⟨O,H⟩:=AJ (vals (zs.take i));rw[H]at G HV E;rw[←E.o]at G
  rw[show(8*i)=O.length from E.o.symm]
  clear H;go_wp2_with fail
  generalize wr=wq at*
  go_loopw[3,6] (fun sv B wr=>nK k.heap.size wq wr O v 8 sv B) (fun _ i _=>(intOf i+1).toNat)
  .exact⟨8,[],A,c,Nat.le_refl _,rfl,rfl,by rw[List.append_nil],by rw[List.append_nil];exact G.o,Below.refl _ _⟩
  obtain⟨j,P,A1,c1,hj,r,rfl,rfl,Y,Z⟩:=hrel;have D:=zz r;have X:=zz Y;have qR:=Z.size;have y:=t.o.size
  have z:(O++P).length+j=O.length+8:=by
   have:=congrArg List.length r;simp only[List.length_append,Dl]at this ⊢;omega
  have qW:O.length<=200:=by have:=E.o;have:=HI.o;omega
  obtain⟨m,s⟩:=AJ ((O++P).length);rw[s]at X z ⊢;have HM:=zz s;clear r Y s
  by_cases h0:j=0
  .subst h0
   have HE:=zz (show O++hi v 8=O++P by rw[←D.o];simp[hi])
   have HN:=zz (show m=8*(i+1)by have:=E.o;omega)
   rw[HN.o]at X ⊢;go_wp2_with fail;exact⟨⟨i+1,by have:=HI.o;omega,BG,A1,c1,rfl,by rw[HV.o,HE.o];exact X.o,t.o.trans Z⟩,by have:=HI.o;simp[intOf];omega⟩
  obtain⟨q,rfl⟩:∃i,j=i+1:=⟨j-1,Aa⟩;have e1:((q+1:Nat):Int)-1=(q:Int):=Aa;rw[e1];clear e1 h0;have e2:(8*(q:Int)).toNat=8*q:=Aa
  have e3:IntKind.u8.wrap (v/2 ^ (8*q))=((hb v q:Nat):Int):=by rw[Y5,Kj];simp[IntKind.wrap,IntKind.bits,IntKind.signed]
  go_wp2_with(at_builtin;refine Aq _ rfl (.tmp 18) (.tmp 25) 74 rfl Dm rfl (X.o.alloc _) rfl Bq (Ff _ _ _) GR GX Aa Ec ?_;intro A2 c2 w4 qX J qQ)
  have d:=Below.grown (Z.alloc (Nat.le_trans y qR) (.cells #[.int .u8 ((hb v q:Nat):Int)] 5)) qQ Ec (fun g e=>(X.o.lt g e).1)
  have V:(O++(P++[hb v q])).length=m+1:=by rw[←List.append_assoc,List.length_append,HM.o];rfl
  refine⟨⟨q,P++[hb v q],A2,c2,Aa,by rw[←D.o,List.append_assoc];rfl,rfl,by rw[V],?_,d⟩,by simp[intOf]⟩;rw[V,←List.append_assoc,Ed];exact J
 obtain rfl:i=24:=Aa
 rw[show((24:Nat):Int)=24 from rfl]
 have x:8*24=(vals zs).length:=by rw[Jo,HL.o]
 have et:zs.take 24=zs:=List.take_of_length_le (by rw[HL.o];omega);rw[et,x]at G;rw[x];have C:=zz (LW A c (vals zs) wr.heap.size wr Nr (by rw[←x];omega) (KC zs) (Rd.Bu G.o));rw[←HD.o]at C;clear x et U;obtain⟨L,hL⟩:=AJ ((vals zs).length);rw[hL]at C ⊢;clear hL;go_wp2_with fail;refine C.o.mono ?_;rintro e w5 ⟨rfl,hb⟩;have N:=zz (Bh (N.o.trans (t.o.mono N.o.size)) Nr hb);clear hb;go_wp2_with fail
 go_ret
 exact⟨rfl,N.o⟩
def Rv(f:Nat->Value)(d:∀i,i<73->C9 (Ar i) (f i))(S:Value)(w:World):
  Calls prog 56 #[.agg (row 74 (Ab f S))] w fun e w'=>e=.returned (.int .i64 (EF f))/\Below w.heap.size w w':=by
 have HF:=zz d;have Y:(prog.info? 37).map (·.size)=some (row 74 (Ab f S)).size:=Eg;have k:=zz (Ae.fresh w 37 (row 74 (Ab f S)));have N:=zz ((Below.refl w.heap.size w).alloc Nr (.cells (row 74 (Ab f S)) 37));obtain⟨R,t⟩:=AJ (row 74 (Ab f S));have p:=zz t;rw[t]at Y k N ⊢;clear t d
 go_in
 go_wp2_with(refine Ad rfl 37 _ rfl w.heap.size rfl k.o _ underlying37 rfl Y ?_)
 rw[←p.o];refine(MO f HF.o S _).mono ?_;rintro e q ⟨AP,cp,rfl,I,hb⟩;rw[p.o]
 have HD:=zz (show EF f=more 0 (vals (Fy f))from rfl)
 have M:=Ep f;obtain⟨zs,D⟩:=AJ (Fy f);rw[D]at I HD M;have HP:=zz (Rd.Bu I);have m:=zz M;have N:=zz (by rw[p.o]at hb;exact Bh N.o Nr hb);clear I hb D M k Y;go_wp2_with fail
 go_loopw[3,9] (fun sv x wr=>∃i:Nat,i<=24/\x=.int .i64 i/\qa q.heap.size q wr zs i sv) (fun _ x _=>24-(intOf x).toNat)
 .exact⟨0,Aa,rfl,none,0,rfl,World.ownsRow_nil _ _ _ _,Below.refl _ _⟩
 obtain⟨i,qY,rfl,A,c,rfl,U,T⟩:=hrel;have F:=zz U;have G:=zz T;clear U T
 by_cases W:i<24
 .obtain⟨b,o,u,rfl,qU,s,J⟩:=(HP.o.below G.o).at W
  have O:i<zs.length:=by rw[m.o];exact W
  rw[Ms.DJ zs i O]at s;obtain rfl:=Option.some.inj s;have HV:=zz (Lx zs i O)
  generalize zs[i]=v at*
  have qX:(0:Int)<=(i:Int):=Aa;have qW:(i:Int)<24:=Aa;have HI:=zz W;clear s O W;have CB:=zz (fun w=>Lj v 8 w Aa);have qR:=G.o.size;go_wp2_with fail;refine(CB.o _).mono ?_;rintro e w4 ⟨A4,c4,rfl,Z,H⟩;rw[Dl]at Z ⊢;have F:=zz (Nd.ownsRow_below F.o H);have G:=CU G H;have z:=zz Z;have V:=G.o.size;have qQ:=HI.o;clear Z H CB J
  go_wp2_with(at_builtin;refine Aq _ rfl (.tmp 13) (.tmp 15) 74 rfl (base:=q.heap.size) Dm rfl F.o rfl (fun h=>Kh z.o h) (Rd.Bu z.o) (EY _) GX Aa V ?_;intro A9 c9 w5 qV X B;have E:=zz X;have r:=zz (Below.grown G.o B V (fun g e=>(F.o.lt g e).1));clear X B)
  have HN:=zz (show 8*i+8=8*(i+1)by omega)
  rw[HN.o]at E ⊢;exact⟨⟨i+1,Aa,BG,A9,c9,rfl,by rw[HV.o,Ed];exact E.o,r.o⟩,Ck⟩
 obtain rfl:i=24:=Aa
 rw[show((24:Nat):Int)=24 from rfl]
 have y:8*24=(vals zs).length:=by rw[Jo,m.o]
 have et:zs.take 24=zs:=List.take_of_length_le (by rw[m.o];omega);rw[et,y]at F;rw[y];have C:=zz (Qq A c (vals zs) wr.heap.size wr Nr (by rw[←y];omega) (KC zs) (Rd.Bu F.o));rw[←HD.o]at C;clear y et W;obtain⟨L,j⟩:=AJ ((vals zs).length);rw[j]at C ⊢;clear j;go_wp2_with fail;refine C.o.mono ?_;rintro e w5 ⟨rfl,hb⟩;have N:=zz (Bh (N.o.trans (G.o.mono N.o.size)) Nr hb);clear hb;go_wp2_with fail
 go_ret
 exact⟨rfl,N.o⟩
end Nd
namespace Sl
open Go.Shelf
def Uq:Go.Shelf.Ren:=⟨fun|5=>123|8=>144|7=>143|19=>169|20=>170|10=>160|11=>161|12=>162|13=>163|14=>164|15=>165|16=>166|17=>167|18=>168|30=>178|31=>179|32=>180|33=>181|34=>182|35=>183|40=>189|n=>n,fun|23=>63|25=>3|3=>3|32=>123|22=>63|0=>0|44=>172|46=>136|4=>4|36=>199|35=>198|41=>170|5=>5|9=>9|53=>214|57=>217|63=>224|64=>225|n=>n,fun|n=>n⟩
def je:Go.Proofs.SlLaysM.n5 prog Uq:={
 mixed:=Ap
 f5:=⟨Tryz.f123.name,El,func123.trans (congrArg some Ap)⟩
 f7:=⟨Tryz.f143.name,El,func143.trans (congrArg some Ap)⟩
 f8:=func144.trans (congrArg some Ap)
 f10:=⟨Tryz.f160.name,El,func160.trans (congrArg some Ap)⟩
 f11:=⟨Tryz.f161.name,El,func161.trans (congrArg some Ap)⟩
 f12:=⟨Tryz.f162.name,El,func162.trans (congrArg some Ap)⟩
 f13:=⟨Tryz.f163.name,El,func163.trans (congrArg some Ap)⟩
 f14:=⟨Tryz.f164.name,El,func164.trans (congrArg some Ap)⟩
 f15:=⟨Tryz.f165.name,El,func165.trans (congrArg some Ap)⟩
 f16:=⟨Tryz.f166.name,El,func166.trans (congrArg some Ap)⟩
 f17:=⟨Tryz.f167.name,El,func167.trans (congrArg some Ap)⟩
 f18:=⟨Tryz.f168.name,El,func168.trans (congrArg some Ap)⟩
 f19:=func169.trans (congrArg some Ap)
 f20:=func170.trans (congrArg some Ap)
 f30:=⟨Tryz.f178.name,El,func178.trans (congrArg some Ap)⟩
 f31:=func179.trans (congrArg some Ap)
 f32:=func180.trans (congrArg some Ap)
 f33:=⟨Tryz.f181.name,El,func181.trans (congrArg some Ap)⟩
 f34:=⟨Tryz.f182.name,El,func182.trans (congrArg some Ap)⟩
 f35:=⟨Tryz.f183.name,El,func183.trans (congrArg some Ap)⟩
 f40:=⟨Tryz.f189.name,El,func189.trans (congrArg some Ap)⟩
 t0:=underlying0
 a0:=Tryz.isAgg0
 z0:=Tryz.sizeOf0
 v0:=Tryz.zeroValue0
 t3:=underlying3
 a3:=Tryz.isAgg3
 z3:=Tryz.sizeOf3
 v3:=Tryz.zeroValue3
 t4:=underlying4
 a4:=Tryz.isAgg4
 z4:=Tryz.sizeOf4
 v4:=Tryz.zeroValue4
 t5:=underlying5
 a5:=Tryz.isAgg5
 z5:=Tryz.sizeOf5
 v5:=Tryz.zeroValue5
 t9:=underlying9
 a9:=Tryz.isAgg9
 z9:=Tryz.sizeOf9
 v9:=Tryz.zeroValue9
 t22:=underlying63
 a22:=Tryz.isAgg63
 z22:=Tryz.sizeOf63
 v22:=Tryz.zeroValue63
 t23:=underlying63
 a23:=Tryz.isAgg63
 z23:=Tryz.sizeOf63
 v23:=Tryz.zeroValue63
 t25:=underlying3
 a25:=Tryz.isAgg3
 z25:=Tryz.sizeOf3
 v25:=Tryz.zeroValue3
 t32:=underlying123
 a32:=Tryz.isAgg123
 z32:=Tryz.sizeOf123
 v32:=Tryz.zeroValue123
 t35:=underlying198
 a35:=Tryz.isAgg198
 z35:=Tryz.sizeOf198
 v35:=Tryz.zeroValue198
 t36:=underlying199
 a36:=Tryz.isAgg199
 z36:=Tryz.sizeOf199
 v36:=Tryz.zeroValue199
 t41:=underlying170
 a41:=Tryz.isAgg170
 z41:=Tryz.sizeOf170
 v41:=Tryz.zeroValue170
 t44:=underlying172
 a44:=Tryz.isAgg172
 z44:=Tryz.sizeOf172
 v44:=Tryz.zeroValue172
 t46:=underlying136
 a46:=Tryz.isAgg136
 z46:=Tryz.sizeOf136
 v46:=Tryz.zeroValue136
 t53:=underlying214
 a53:=Tryz.isAgg214
 z53:=Tryz.sizeOf214
 v53:=Tryz.zeroValue214
 t57:=underlying217
 a57:=Tryz.isAgg217
 z57:=Tryz.sizeOf217
 v57:=Tryz.zeroValue217
 t63:=underlying224
 a63:=Tryz.isAgg224
 z63:=Tryz.sizeOf224
 v63:=Tryz.zeroValue224
 t64:=underlying225
 a64:=Tryz.isAgg225
 z64:=Tryz.sizeOf225
 v64:=Tryz.zeroValue225 }
end Sl
namespace Fc
open Go.RowKit Mem
section
variable {n l : Nat} {P : Program} {ops : Array Oper} {Q : Exit -> Act -> World -> Prop}
def Le(Z:¬LetsOut Q):∀(rest:List Oper),(∀o∈rest,∀c,o.op≠ .defer c)->∀(a:Act) (w:World),wpList P ops Q rest a w->wpListIn (Fence.wide.inRound l) n P ops Q rest a w
 |[],_,_,_,h=>h
 |o::rest,hd,a,w,h=>by
  unfold wpList at h
  unfold wpListIn
  split
  .rename_i hw
   rw[Ao hw]at h;have V:=h.resolve_right fun x=>Z x.2;have W:=Pz (n:=n) (l:=l) (fun c=>hd o (List.mem_cons_self) c) V;exact Oper.wpIn_mono (fun T w' U=>Le Z rest (fun X Y=>hd X (List.mem_cons_of_mem _ Y)) T w' U) W
  rename_i hw
  rw[Aj hw]at h;exact⟨fun _ _=>trivial,Le Z rest (fun X Y=>hd X (List.mem_cons_of_mem _ Y)) _ _ h⟩
def fO{id:Nat}{a:Act}{w:World}(Y:ops.toList.all (fun o=>match o.op with| .defer _=>false|_=>true)=true)(h:wpList P ops (Norm (Q .normal)) ops.toList a w):(Code.region id ops false).wpIn (Fence.wide.inRound l) n P Q a w:=
 wpIn_mono (wpIn_region_list (Le (Zf _) _ (fun o X c e=>by
  have Z:=List.all_eq_true.1 Y o X;rw[e]at Z
  cases Z) _ _ h)) Ww
end
def Ff(w:World)(v:Value)(e:TypeId):Rd (w.alloc (.cells #[v] e)) (w.heap.size+1) 1 (some ⟨w.heap.size,0,none⟩) 1 [v]:=by
 refine⟨rfl,fun _=>⟨w.heap.size,0,rfl,Aa,fun j u Z=>?_⟩⟩;have h:=(Ae.fresh w e #[v]).cell j;rw[Nat.zero_add,h]
 simpa using Z
def LK{W Z:World}{row:Option Nat}{B g:Nat}{t:TypeId}{cs:Array Value}(h:Ae W g t cs)(X:W.grownBy Z row)(V:∀r,row=some r->B<=r/\∃o:Obj,W.heap[r]?=some o/\o.isCells=false):Ae Z g t cs:=
 h.grown X fun e=>by
  obtain⟨_,o,Y,U⟩:=V g e.symm
  unfold Ae at h
  rw[h]at Y
  cases Y
  cases U
def bH{W V:World}{row:Option Nat}{B base:Nat}{e:TypeId}{size:Nat}{v:Value}{n:Nat}{xs:List Value}(h:W.ownsRow base e size v n xs)(Y:W.grownBy V row)(O:∀r,row=some r->B<=r/\∃o:Obj,W.heap[r]?=some o/\o.isCells=false):V.ownsRow base e size v n xs:=by
 have X:=h;obtain⟨_,⟨Z,_⟩|⟨g,M,R,Z,_,N,_⟩⟩:=h
 . exact X.kept Y (.inl (by rw[Z];rfl))
 refine X.kept Y (.inr fun e=>?_);rw[Z]at e;obtain⟨_,o,U,T⟩:=O g (by rw[←e];rfl);rw[N]at U
 cases U
 cases T
def lD{W:World}{base D:Nat}{e:TypeId}{size:Nat}{v:Value}{n:Nat}{xs:List Value}(h:W.ownsRow base e size v n xs)(Y:W.heap[D]?=some (.deferred (some [])))(o:Obj):(W.putObj D o).ownsRow base e size v n xs:=by
 have X:=h;obtain⟨_,⟨Z,_⟩|⟨g,T,U,Z,_,V,_⟩⟩:=h
 . exact X.kept (grownBy_putObj' W D o) (.inl (by rw[Z];rfl))
 refine X.kept (grownBy_putObj' W D o) (.inr fun e=>?_);rw[Z]at e
 cases e
 rw[V]at Y
 cases Y
end Fc
namespace So
open Go.RowKit Go.Shelf Mem Go.Proofs.YtjobajeggllmiaaGreat.Ms
attribute [local go_sem] Oper.semAt_some
def Yc(n:Nat)(j:1<=n)(l G B F:Nat)(A:Option Addr)(Z:List Int)(O:Z.length*8<=140737488351232)(t:G<B)(J E:List Int->World->Prop)(hY:∀(Y:List Int) (x:Int) (W:World),J Y W->Y.length<Z.length->YieldAt Fence.wide (n-1) prog l (LB x) W fun e U=>
   (e=.returned (.bool true)/\J (Y++[x]) U/\Below B W U)\/(e=.returned (.bool false)/\E (Y++[x]) U))(W:World)(cs: W.cell? ⟨G,0,none⟩=some (.slice A Z.length F))(hr:Rd W B 1 A Z.length (AQ Z))(h0:J [] W):
  CallsIn Fence.wide n prog 124 #[.func (.yield l) #[] #[],.pointer (some ⟨G,0,none⟩)] W fun e U=>(∃v,e=.returned v)/\
   ((∃C,C=Z/\J C U)\/(∃Y,(∃i,Y=Z.take i)/\E Y U)):=by
 have p:=zz hr;clear hr;refine callsIn_of_wp func124 rfl trivial ?_ rfl;simp only[ntmps124,List.size_toArray,List.length_cons,List.length_nil,Nat.reduceAdd,Nat.reduceSub,Array.replicate_succ,Array.replicate_zero,List.push_toArray,List.append_toArray,List.nil_append,List.cons_append]
 gi_wp2
 gi_loopw [7] (fun iv wr=>∃i:Nat,i<=Z.length/\iv=.int .i64 (i:Nat)/\J (Z.take i) wr/\Below B W wr)
  (fun iv _=>Z.length-(intOf iv).toNat)
 .exact⟨0,Nat.zero_le _,rfl,h0,Below.refl _ _⟩
 obtain⟨i,hi,rfl,V,T⟩:=hrel
 by_cases X:i<Z.length
 .obtain⟨b,o,u,rfl,y,H,I⟩:=(p.o.below T).at X;rw[DJ Z i X]at H;obtain rfl:=Option.some.inj H;obtain⟨m,tmps,N,body,hy,s⟩:=hY _ Z[i] wr V (by rw[List.length_take];omega)
  have D:=zz (show Z.take (i+1)=Z.take i++[Z[i]]by rw[List.take_add_one,List.getElem?_eq_getElem X];rfl)
  clear H
  generalize Z[i]=z at*
  have q:(0:Int)<=(i:Int):=Aa;have r:(i:Int)<(Z.length:Int):=Aa
  gi_wp2
  refine s.mono ?_;rintro e k (⟨rfl,M,L⟩|⟨rfl,R⟩)
  .gi_wp2
   go_roundw
   case rel=>exact⟨i+1,Aa,BG,by rw[D.o];exact M,T.trans L⟩
   case measure=>simp[intOf];omega
  gi_wp2
  refine bodyPost_ret (results_none rfl _ _ _) rfl ?_;exact⟨⟨_,rfl⟩,.inr ⟨_,⟨i+1,D.o.symm⟩,R⟩⟩
 obtain rfl:i=Z.length:=Aa
 gi_wp2
 go_end0
 exact⟨⟨_,rfl⟩,.inl ⟨_,rfl,by rw[List.take_length]at V;exact V⟩⟩
def Xk(A:Option Addr)(Z Y:Nat)(w:World):
  Calls prog 101 #[.slice A Z Y] w fun e w'=>e=.returned (.func (.func 124) #[] #[.pointer (some ⟨w.heap.size,0,none⟩)])/\w'=w.alloc (.cells #[.slice A Z Y] 63):=by
 go_in
 go_wp2_with fail
 go_ret
 exact⟨rfl,rfl⟩
def values_stops(n:Nat)(I:1<=n)(V B U:Nat)(A:Option Addr)(Y:List Int)(Z:Y.length*8<=140737488351232)(X:V<B)(w:World)(R:B<=w.heap.size)(cs: w.cell? ⟨V,0,none⟩=some (.slice A Y.length U))(hr:Rd w B 1 A Y.length (AQ Y)):
  SeqStopsK Fence.wide n prog 124 #[.pointer (some ⟨V,0,none⟩)] (fun x:Int=>(LB x)) (Below B) (fun H=>H=Y) (fun T=>∃i,T=Y.take i) Y.length w:=fun l J L W O _ _ M N=>
 Yc n I l V B U A Y Z X J L M W ((O.cell (p:=⟨V,0,none⟩) (Nat.lt_of_lt_of_le X R)).trans cs) (hr.below (O.mono R)) N
def pI(w Y:World)(X:Nat)(Z:List Int)(W:World):Prop:=
 ∃A c,Ae W X 63 #[.slice A Z.length c]/\W.ownsRow Y.heap.size 3 1 (.slice A Z.length c) Z.length (AQ Z)/\Below w.heap.size w W/\Y.heap.size<=W.heap.size
def jw(w V:World)(O:Nat)(N:w.heap.size<=V.heap.size):OwnFrom V.heap.size (pI w V O):=by
 intro s X Y r ⟨A,c,M,U,T,R⟩ Z W;exact⟨A,c,Fc.LK M Z W,Fc.bH U Z W,ownFrom_below (β:=Unit) Nr N () X Y r T Z W,Nat.le_trans R Z.size⟩
def appendSeq_in(gf:Nat)(lb:Array Value)(eg:∀V w,(callFunc gf V).run prog w=.ok (.enter gf V) w)(R:List Int)(hl:R.length<=1000)(Sp:List Int->Prop)(w:World)(hseq:∀w',Below w.heap.size w w'->SeqStopsK Fence.wide 2 prog gf lb (fun x:Int=>(LB x)) (Below w.heap.size) (fun ys=>ys=R) Sp R.length w'):
  Calls prog 142 #[.slice none 0 0,.func (.func gf) #[] lb] w fun e w'=>∃A c,e=.returned (.slice A R.length c)/\w'.ownsRow w.heap.size 3 1 (.slice A R.length c) R.length (AQ R)/\Below w.heap.size w w':=by
 refine(callsIn_wide (n:=3)).1 ?_;refine callsIn_of_wp_marks func142 rfl trivial ?_ rfl;simp only[ntmps142,List.size_toArray,List.length_cons,List.length_nil,Nat.reduceAdd,Nat.reduceSub,Array.replicate_succ,Array.replicate_zero,List.push_toArray,List.append_toArray,List.nil_append,List.cons_append];refine wpIn_wide.2 ?_;go_wp2_with fail;have B:=zz (Ae.fresh w 63 #[.slice none 0 0]);have M:=zz ((Below.refl w.heap.size w).alloc Nr (.cells #[.slice none 0 0] 63))
 have Z:=zz (show(w.alloc (.cells #[.slice none 0 0] 63)).heap.size=w.heap.size+1 by simp)
 generalize(w.alloc (.cells #[.slice none 0 0] 63))=I at*
 refine(wpIn_wide (n:=3)).1 ?_
 refine Fc.dJ (F:=Fence.wide) (n:=3) (t:=7) (d:=5) rfl Aa (gf:=gf) (lb:=lb) rfl trivial eg (fun x:Int=>.int .i64 x) (hseq I M.o)
  (fun h k=>h.trans k) (belowK_b (by rw[Z.o];omega)) (pI w I w.heap.size) (jw w I w.heap.size M.o.size) ?start ?assign ?body ?done
 case start=>exact⟨none,0,B.o,World.ownsRow_nil _ _ _ _,M.o,Nat.le_refl _⟩
 case assign=>
  intro l x W K hK;simp only[List.setIfInBounds_toArray,List.set_cons_zero,List.set_cons_succ]at hK ⊢
  gi_wp2
  exact hK
 case body=>
  rintro l H x W ⟨A,c,N,L,T,r⟩ q;have B:=zz (N.alloc (.cells (LB x) 3));have U:=zz (Nd.ownsRow_below L ((Below.refl W.heap.size W).alloc Nr (.cells (LB x) 3)));have u:=zz (T.alloc T.size (.cells (LB x) 3));have HW:=zz ((Below.refl w.heap.size W).alloc T.size (.cells (LB x) 3));have G:=zz (KeepsOthers.alloc W (.cells (LB x) 3));have b:=zz (Fc.Ff W (.int .i64 x) 3)
  have J:=zz (show w.heap.size+1<=W.heap.size by have:=Z.o;omega)
  have z:=N.cell 0;simp only[List.getElem?_toArray,List.getElem?_cons_zero]at z;clear N L T r;refine wpIn_block ?_;refine Fc.fO Bb ?_;simp only[List.setIfInBounds_toArray,List.set_cons_zero,List.set_cons_succ]
  go_wp2_with(at_builtin;go_loud (refine Aq _ rfl (.tmp 8) (.tmp 10) 63 rfl (base:=I.heap.size) C8 rfl U.o rfl (fun h=>by cases h) b.o GR GX Aa (by have:=Z.o;have:=J.o;simp;omega) ?_);intro f c9 w5 qR X Y;have E:=zz X;have O:=zz (B.o.grown Y (fun e=>by have:=(U.o.lt _ e.symm).1;have:=Z.o;omega));have y:=zz (u.o.grown Y (by have:=u.o.size;omega) (fun g e=>by have:=(U.o.lt g e).1;have:=Z.o;omega));have s:=zz (HW.o.grown Y (by have:=u.o.size;omega) (fun g e=>by have:=(U.o.lt g e).1;have:=Z.o;omega));have C:=zz (G.o.trans (KeepsOthers.of_grownBy Y (fun j o e m=>by obtain⟨qQ,t,h,_⟩:=Fb U.o (t':=0) El j e;rw[h]at m;cases m;rfl)));have v:=zz (Nat.le_trans (show W.heap.size+1<=_ by simp) Y.size);clear X Y;have v5:=O.o.cell 0;have f5:=O.o.thaw 0;simp only[List.getElem?_toArray,List.getElem?_cons_zero]at v5)
  exact⟨C.o.trans (KeepsOthers.setCell _ _ _),s.o.setCell (p:=⟨w.heap.size,0,none⟩) Nr _,f,c9,by rw[List.length_append];exact O.o.set 0 _,by rw[List.length_append,show AQ (H++[x])=AQ H++[.int .i64 x]by simp[AQ]];exact ownsRow_setCell_below E.o (by show w.heap.size<I.heap.size;have:=Z.o;omega) _,y.o.setCell (p:=⟨w.heap.size,0,none⟩) Nr _,by rw[World.size_setCell];have:=v.o;have:=Z.o;have:=J.o;omega⟩
 rintro D xs W i rfl ⟨A,c,N,L,T,r⟩ hK;have z:=N.cell 0;simp only[List.getElem?_toArray,List.getElem?_cons_zero]at z;have M:=zz T;have U:=zz L;have G:=zz hK
 have HD:=zz (show w.heap.size<=D by have:=Z.o;omega)
 clear N L T r hK i;go_wp2_with fail;refine Fc.TQ G.o ?_
 go_ret
 exact⟨A,c,rfl,Bf (Fc.lD U.o G.o _) (by have:=Z.o;omega),M.o.grown (grownBy_putObj' _ D _) M.o.size (fun k e=>by cases e;exact HD.o)⟩
def Vy(A:Option Addr)(U:Nat)(Z:List Int)(L:Z.length<=1000)(W:Nat)(w:World)(V:W<w.heap.size)(cs: w.cell? ⟨W,0,none⟩=some (.slice A Z.length U))(R:Rd w w.heap.size 1 A Z.length (AQ Z)):
  Calls prog 122 #[.func (.func 124) #[] #[.pointer (some ⟨W,0,none⟩)]] w fun e w'=>∃A c,e=.returned (.slice A Z.length c)/\w'.ownsRow w.heap.size 3 1 (.slice A Z.length c) Z.length (AQ Z)/\Below w.heap.size w w':=by
 have C:=zz (appendSeq_in 124 #[.pointer (some ⟨W,0,none⟩)] (enters_of func124 Ap rfl) Z L (fun T=>∃i,T=Z.take i) w
  (fun w' X=>values_stops 2 Aa W w.heap.size U A Z Aa V w' X.size ((X.cell (p:=⟨W,0,none⟩) V).trans cs) (R.below X)))
 clear cs R
 go_in
 go_wp2_with fail;refine C.o.mono ?_;rintro e J ⟨M,N,rfl,Y,hb⟩;have O:=zz Y;clear Y C;go_wp2_with fail
 go_ret
 exact⟨M,N,rfl,O.o,hb⟩
end So
namespace Md
def QY(l:List Int):List Int:=l.mergeSort (fun x y=>decide (x<=y))
def GZ(l:List Int)(v:Int):Nat:=l.countP (fun w=>decide (w<v))
def Jp(l:List Int)(v:Int):Nat:=l.countP (fun w=>decide (w=v))
def KZ(l:List Int)(k:Nat)(v:Int):Bool:=decide (GZ l v<=k/\k<GZ l v+Jp l v)
def Jv(l:List Int)(k:Nat):Int:=(l.find? (KZ l k)).getD 0
def K4(l:List Int):(QY l).Perm l:=List.mergeSort_perm l _
def LU(l:List Int):(QY l).length=l.length:=(K4 l).length_eq
def Yq(l:List Int):(QY l).Pairwise (fun x y=>x<=y):=by
 have h:=List.pairwise_mergeSort (le:=fun x y:Int=>decide (x<=y)) (fun a b c Y Z=>by simp at*;omega) (fun a b=>by simp;omega) l;exact h.imp (fun h=>by simpa using h)
def eD(l:List Int)(v:Int):GZ l v=GZ (QY l) v:=((K4 l).countP_eq _).symm
def gJ(l:List Int)(v:Int):Jp l v=Jp (QY l) v:=((K4 l).countP_eq _).symm
def sorted_at{s:List Int}(h:s.Pairwise (fun x y=>x<=y)){i j:Nat}(Z:i<=j)(X:j<s.length):s[i]'Aa<=s[j]:=by
 rcases Nat.lt_or_eq_of_le Z with Y|rfl
 . exact List.pairwise_iff_getElem.1 h i j Aa X Y
 exact Int.le_refl _
def OI(s:List Int)(p:Int->Bool)(k:Nat):s.countP p=(s.take k).countP p+(s.drop k).countP p:=by
 conv=>lhs;rw[←List.take_append_drop k s]
 exact List.countP_append
def Z9{s:List Int}{p:Int->Bool}{k:Nat}(h:∀i (hi:i<s.length),k<=i->p s[i]=false):(s.drop k).countP p=0:=by
 rw[List.countP_eq_zero];intro a Z;obtain⟨i,hi,rfl⟩:=List.mem_iff_getElem.1 Z;rw[List.getElem_drop];rw[h (k+i) (by rw[List.length_drop]at hi;omega) Aa]
 simp
def Xq{s:List Int}{p:Int->Bool}{k:Nat}(Y:k<=s.length)(h:∀i (hi:i<s.length),i<k->p s[i]=true):(s.take k).countP p=k:=by
 have e:(s.take k).countP p=(s.take k).length:=by
  rw[List.countP_eq_length];intro a Z;obtain⟨i,hi,rfl⟩:=List.mem_iff_getElem.1 Z;rw[List.getElem_take];rw[List.length_take]at hi;exact h i Aa Aa
 rw[e,List.length_take];omega
def Mw{s:List Int}{p:Int->Bool}{k:Nat}(h:∀i (hi:i<s.length),k<=i->p s[i]=false):s.countP p<=k:=by
 rw[OI s p k,Z9 h];have:=List.countP_le_length (p:=p) (l:=s.take k);rw[List.length_take]at this;omega
def Ml{s:List Int}{p:Int->Bool}{k:Nat}(Z:k<=s.length)(h:∀i (hi:i<s.length),i<k->p s[i]=true):k<=s.countP p:=by
 rw[OI s p k,Xq Z h];omega
def both(s:List Int)(v:Int):GZ s v+Jp s v=s.countP (fun w=>decide (w<=v)):=by
 unfold GZ Jp
 induction s with
 |nil=>rfl
 |cons x s ih=>
  simp only[List.countP_cons]
  have e:(if decide (x<=v)=true then 1 else 0)=(if decide (x<v)=true then 1 else 0)+(if decide (x=v)=true then 1 else 0):=by
   simp only[decide_eq_true_eq]
   split<;>split<;>split<;>omega
  omega
def VJ{s:List Int}(h:s.Pairwise (fun x y=>x<=y)){k:Nat}(X:k<s.length)(v:Int):(GZ s v<=k/\k<GZ s v+Jp s v)↔v=s[k]:=by
 rw[both]
 constructor
 .rintro⟨V,W⟩
  have a:¬s[k]<v:=fun Y=>by
   have:k+1<=GZ s v:=Ml Aa (fun i hi Z=>by
    have:=sorted_at h (show i<=k by omega) X
    exact decide_eq_true Aa)
   omega
  have b:¬v<s[k]:=fun Y=>by
   have:s.countP (fun w=>decide (w<=v))<=k:=Mw (fun i hi Z=>by
    have:=sorted_at h Z hi
    exact decide_eq_false Aa)
   omega
  omega
 rintro rfl;refine⟨Mw (fun i hi Z=>decide_eq_false (by have:=sorted_at h Z hi;omega)),?_⟩
 have:k+1<=s.countP (fun w=>decide (w<=s[k])):=Ml Aa (fun i hi Z=>decide_eq_true (by have:=sorted_at h (show i<=k by omega) X;omega))
 omega
def QM(l:List Int){k:Nat}(Z:k<l.length)(v:Int):KZ l k v=true↔v=(QY l)[k]'(by rw[LU];exact Z):=by
 unfold KZ
 rw[decide_eq_true_eq,eD,gJ];exact VJ (Yq l) (by rw[LU];exact Z) v
def Oi(l:List Int){k:Nat}(Z:k<l.length):Jv l k=(QY l).getD k 0:=by
 have Y:k<(QY l).length:=by rw[LU];exact Z
 have X:(QY l)[k]∈l:=(K4 l).mem_iff.1 (List.getElem_mem Y)
 unfold Jv
 rw[List.getD_eq_getElem?_getD,List.getElem?_eq_getElem Y]
 cases hf: l.find? (KZ l k)with
 |none=>exact absurd ((QM l Z _).2 rfl) (by simpa using List.find?_eq_none.1 hf _ X)
 |some v=>exact(QM l Z v).1 (List.find?_some hf)
def Ve(a b:Nat):2*(a&&& b)+(a ^^^ b)=a+b:=by
 induction a using Nat.strongRecOn generalizing b with
 |_ a ih=>
  by_cases Z:a=0
  . subst Z;simp
  have h:=ih (a/2) Aa (b/2)
  have X:(a&&& b)=2*(a/2&&& b/2)+(a%2&&& b%2):=by
   have d:(a&&& b)/2=a/2&&& b/2:=Nat.and_div_two
   have m:(a&&& b)%2=a%2&&& b%2:=by
    have:=Nat.and_mod_two_pow (a:=a) (b:=b) (n:=1);simpa using this
   omega
  have Y:(a ^^^ b)=2*(a/2 ^^^ b/2)+(a%2 ^^^ b%2):=by
   have d:(a ^^^ b)/2=a/2 ^^^ b/2:=Nat.xor_div_two
   have m:(a ^^^ b)%2=a%2 ^^^ b%2:=by
    have:=Nat.xor_mod_two_pow (a:=a) (b:=b) (n:=1);simpa using this
   omega
  have W:2*(a%2&&& b%2)+(a%2 ^^^ b%2)=a%2+b%2:=by
   rcases Nat.mod_two_eq_zero_or_one a with x|x<;>rcases Nat.mod_two_eq_zero_or_one b with y|y<;>rw[x,y]<;>rfl
  omega
def kQ(a b:Nat):(a&&& b)/2 ^ 63=a/2 ^ 63&&& b/2 ^ 63:=Nat.and_div_two_pow
def lN(a b:Nat):(a ^^^ b)/2 ^ 63=a/2 ^ 63 ^^^ b/2 ^ 63:=Nat.xor_div_two_pow
def L6{a:Int}{u:Nat}(h:a%18446744073709551616=(u:Int)):(BitVec.ofInt 64 a).toNat=u:=by
 rw[BitVec.toNat_ofInt];have:((2:Int) ^ 64)=18446744073709551616:=El;omega
def Pg(a b:Int)(M: -9223372036854775808<=a/\a<=9223372036854775807)(hb: -9223372036854775808<=b/\b<=9223372036854775807):
  2*bits .and .i64 a b+bits .xor .i64 a b=a+b/\(-9223372036854775808<=bits .and .i64 a b/\bits .and .i64 a b<=9223372036854775807)/\(-9223372036854775808<=bits .xor .i64 a b/\bits .xor .i64 a b<=9223372036854775807):=by
 obtain⟨u,T⟩:∃u:Nat,a%18446744073709551616=(u:Int):=⟨(a%18446744073709551616).toNat,Aa⟩;obtain⟨v,R⟩:∃v:Nat,b%18446744073709551616=(v:Int):=⟨(b%18446744073709551616).toNat,Aa⟩
 have N:bits .and .i64 a b=IntKind.i64.wrap ((u&&& v:Nat):Int):=by
  show IntKind.i64.wrap (((BitVec.ofInt 64 a&&& BitVec.ofInt 64 b).toNat:Nat):Int)=_
  rw[BitVec.toNat_and,L6 T,L6 R]
 have O:bits .xor .i64 a b=IntKind.i64.wrap ((u ^^^ v:Nat):Int):=by
  show IntKind.i64.wrap (((BitVec.ofInt 64 a ^^^ BitVec.ofInt 64 b).toNat:Nat):Int)=_
  rw[BitVec.toNat_xor,L6 T,L6 R]
 have L:=Ve u v;have U:=kQ u v;have V:=lN u v;have W:(2:Nat) ^ 63=9223372036854775808:=El;rw[W]at U V;rw[N,O,IntKind.wrap_i64,IntKind.wrap_i64];have Z:u/9223372036854775808=0\/u/9223372036854775808=1:=Aa;have Y:v/9223372036854775808=0\/v/9223372036854775808=1:=Aa
 generalize(u&&& v)=A at*
 generalize(u ^^^ v)=X at*
 have J:A<=u+v:=Aa
 rcases Z with p|p<;>rcases Y with q|q<;>rw[p,q]at U V<;>simp at U V<;>omega
def mH(a b:Int)(Z: -9223372036854775808<=a/\a<=9223372036854775807)(hb: -9223372036854775808<=b/\b<=9223372036854775807):
  bits .and .i64 a b+bits .xor .i64 a b/2=(a+b)/2:=by
 have h:=(Pg a b Z hb).1;omega
def Nz(l:List Int):Int:=((QY l).getD ((l.length-1)/3) 0+(QY l).getD (l.length-1-(l.length-1)/3) 0)/2
def Nn(l:List Int):Int×Int:=if l.length=0\/64<l.length then(0,8)else(Nz l,0)
def Nb{l:List Int}{k:Nat}(Y:k<l.length):(QY l).getD k 0∈l:=by
 have Z:k<(QY l).length:=by rw[LU];exact Y
 rw[List.getD_eq_getElem?_getD,List.getElem?_eq_getElem Z];exact(K4 l).mem_iff.1 (List.getElem_mem Z)
end Md
namespace BigLaw
def pw(k:Nat):Nat:=4294967296 ^ k
def KA:pw 0=1:=rfl
def Fu(k:Nat):pw (k+1)=4294967296*pw k:=by unfold pw;rw[Nat.pow_succ,Nat.mul_comm]
def KW(k:Nat):0<pw k:=Nat.pow_pos Aa
def Xo(a b:Nat):pw (a+b)=pw a*pw b:=by unfold pw;exact Nat.pow_add _ _ _
def KH{a b:Nat}(h:a<=b):pw a<=pw b:=Nat.pow_le_pow_right Aa h
def Jz(k:Nat):pw k=2 ^ (32*k):=by unfold pw;rw[Nat.pow_mul]
def AB(f:Nat->Nat):Nat->Nat
 |0=>0
 |n+1=>AB f n+f n*pw n
def EI(f:Nat->Nat)(n:Nat):AB f (n+1)=AB f n+f n*pw n:=rfl
def val(l:List Nat):Nat:=AB (fun i=>l.getD i 0) l.length
def small(l:List Nat):Prop:=∀x∈l,x<4294967296
def DY(l:List Nat):Prop:=0<l.length->l.getD (l.length-1) 0≠0
def CY{f g:Nat->Nat}{n:Nat}(h:∀i,i<n->f i=g i):AB f n=AB g n:=by
 induction n with
 |zero=>rfl
 |succ n ih=>unfold AB;rw[ih (fun i hi=>h i Aa),h n Aa]
def Fw{f:Nat->Nat}{n:Nat}(h:∀i,i<n->f i<4294967296):AB f n<pw n:=by
 induction n with
 |zero=>simp[AB,pw]
 |succ n ih=>
  have Y:=ih (fun i hi=>h i Aa);have Z:=h n Aa
  unfold AB
  rw[Fu]
  have X:f n*pw n+pw n<=4294967296*pw n:=by
   have:(f n+1)*pw n<=4294967296*pw n:=Nat.mul_le_mul_right _ Z
   rwa[Nat.add_mul,Nat.one_mul]at this
  omega
def cu{f:Nat->Nat}{a b:Nat}(h:a<=b):AB f a<=AB f b:=by
 induction b with
 |zero=>
      have:a=0:=Aa;subst this;exact Nat.le_refl _
 |succ b ih=>
  by_cases e:a=b+1
  . subst e;exact Nat.le_refl _
  have:=ih Aa;rw[EI];omega
def Ja{f:Nat->Nat}{a b:Nat}(h:a<=b)(Z:∀i,a<=i->i<b->f i=0):AB f b=AB f a:=by
 induction b with
 |zero=>
      have:a=0:=Aa;subst this;rfl
 |succ b ih=>
  by_cases e:a=b+1
  . subst e;rfl
  rw[EI,Z b Aa Aa,Nat.zero_mul,Nat.add_zero];exact ih Aa (fun i Y X=>Z i Y Aa)
def YG{f:Nat->Nat}{n i:Nat}(hi:i<n):f i*pw i<=AB f n:=by
 have Z:AB f (i+1)<=AB f n:=cu hi;rw[EI]at Z;omega
def getD_lt{l:List Nat}(h:small l)(i:Nat):l.getD i 0<4294967296:=by
 rw[List.getD_eq_getElem?_getD]
 cases hx:l[i]? with
 |none=>simp
 |some x=>simpa using h x (List.mem_of_getElem? hx)
def I4{l:List Nat}(h:small l):val l<pw l.length:=Fw fun i _=>getD_lt h i
def Np:val []=0:=rfl
def Pw{l:List Nat}(Z:DY l)(h:0<l.length):pw (l.length-1)<=val l:=by
 have X:=Z h;have Y:l.getD (l.length-1) 0*pw (l.length-1)<=val l:=YG (f:=fun i=>l.getD i 0) (i:=l.length-1) Aa;have W:1*pw (l.length-1)<=l.getD (l.length-1) 0*pw (l.length-1):=Nat.mul_le_mul_right _ Aa;omega
def val_zero{l:List Nat}(Y:DY l):val l=0↔l=[]:=by
 constructor
 .intro h
  rcases Nat.eq_zero_or_pos l.length with Z|Z
  . exact List.eq_nil_of_length_eq_zero Z
  have:=Pw Y Z;have:=KW (l.length-1);omega
 intro h;subst h;rfl
def length_le{l:List Nat}(Y:DY l){k:Nat}(h:val l<pw k):l.length<=k:=by
 rcases Nat.eq_zero_or_pos l.length with Z|Z
 . omega
 have W:=Pw Y Z
 by_cases X:l.length<=k
 . exact X
 have:=KH (show k<=l.length-1 by omega)
 omega
def Vu{l:List Nat}{n:Nat}(Z:n<=l.length):val (l.take n)=AB (fun i=>l.getD i 0) n:=by
 unfold val
 rw[List.length_take,Nat.min_eq_left Z];refine CY fun i hi=>?_;rw[List.getD_eq_getElem?_getD,List.getD_eq_getElem?_getD,List.getElem?_take,Ao hi]
def X8{l:List Nat}(h:small l)(n:Nat):small (l.take n):=fun x Z=>h x (List.mem_of_mem_take Z)
def MB(a b:Nat):Int:=if a<b then-1 else if b<a then 1 else 0
def YH{a b:List Nat}(Z:small a)(hb:DY b)(h:a.length<b.length):val a<val b:=by
 have X:=I4 Z;have Y:=Pw hb Aa
 have:=KH (show a.length<=b.length-1 by omega)
 omega
def Za{f g:Nat->Nat}{n i:Nat}(hi:i<n)(Z:∀j,j<n->f j<4294967296)(h:f i<g i)(X:∀j,i<j->j<n->f j=g j):AB f n<AB g n:=by
 induction n with
 |zero=>omega
 |succ n ih=>
  by_cases e:i=n
  .subst e
   unfold AB
   have Y:=Fw (f:=f) (n:=i) (fun j V=>Z j Aa)
   have W:f i*pw i+pw i<=g i*pw i:=by
    have:(f i+1)*pw i<=g i*pw i:=Nat.mul_le_mul_right _ h
    rwa[Nat.add_mul,Nat.one_mul]at this
   omega
  have:=ih Aa (fun j V=>Z j Aa) (fun j Y W=>X j Y Aa)
  unfold AB
  rw[X n Aa Aa];omega
def Fz(f g:Nat->Nat):Nat->Nat
 |0=>0
 |i+1=>(f i+g i+Fz f g i)/4294967296
def GL(f g:Nat->Nat)(i:Nat):Nat:=(f i+g i+Fz f g i)%4294967296
def Mc{f g:Nat->Nat}(Y:∀i,f i<4294967296)(Z:∀i,g i<4294967296):∀i,Fz f g i<=1
 |0=>by simp[Fz]
 |i+1=>by
  have:=Mc Y Z i;have:=Y i;have:=Z i
  unfold Fz;omega
def TU(f g:Nat->Nat):∀k,AB (GL f g) k+Fz f g k*pw k=AB f k+AB g k
 |0=>by simp[AB,Fz]
 |k+1=>by
  have Y:=TU f g k
  unfold AB
  have Z:Fz f g (k+1)*pw (k+1)+GL f g k*pw k=(f k+g k+Fz f g k)*pw k:=by
   unfold GL
   have e:Fz f g (k+1)=(f k+g k+Fz f g k)/4294967296:=rfl;rw[e,Fu,←Nat.mul_assoc,←Nat.add_mul]
   congr 1
   omega
  rw[Nat.add_mul,Nat.add_mul]at Z;omega
def En(f g:Nat->Nat):Nat->Nat
 |0=>0
 |i+1=>if f i<g i+En f g i then 1 else 0
def FT(f g:Nat->Nat)(i:Nat):Nat:=if f i<g i+En f g i then f i+4294967296-(g i+En f g i)else f i-(g i+En f g i)
def M9(f g:Nat->Nat):∀i,En f g i<=1
 |0=>by simp[En]
 |i+1=>by unfold En;split<;>omega
def Kg{f g:Nat->Nat}(Z:∀i,f i<4294967296)(i:Nat):FT f g i<4294967296:=by
 unfold FT;have:=Z i;split<;>omega
def TI{f g:Nat->Nat}(Z:∀i,g i<4294967296):∀k,AB (FT f g) k+AB g k=AB f k+En f g k*pw k
 |0=>by simp[AB,En]
 |k+1=>by
  have V:=TI (f:=f) Z k;have U:=M9 f g k;have W:=Z k
  unfold AB
  have X:FT f g k+g k+En f g k=f k+En f g (k+1)*4294967296:=by
   unfold FT
   have e:En f g (k+1)=if f k<g k+En f g k then 1 else 0:=rfl
   rw[e]
   split<;>omega
  have Y:(FT f g k+g k+En f g k)*pw k=(f k+En f g (k+1)*4294967296)*pw k:=by rw[X]
  rw[Nat.add_mul,Nat.add_mul,Nat.add_mul,Nat.mul_assoc,←Fu]at Y;omega
def Mr(f:Nat->Nat)(s:Nat):Nat->Nat
 |0=>f 0*2 ^ s%4294967296
 |i+1=>f (i+1)*2 ^ s%4294967296+f i*2 ^ s/4294967296
def FN(f:Nat->Nat)(s:Nat):Nat->Nat
 |0=>0
 |i+1=>f i*2 ^ s/4294967296
def M7(f:Nat->Nat)(s i:Nat):Mr f s i=f i*2 ^ s%4294967296+FN f s i:=by cases i<;>rfl
def Wn(f:Nat->Nat)(s:Nat):∀k,AB (Mr f s) k+FN f s k*pw k=AB f k*2 ^ s
 |0=>by simp[AB,FN]
 |k+1=>by
  have Y:=Wn f s k
  unfold AB
  rw[M7,Nat.add_mul,Nat.add_mul]
  have X:FN f s (k+1)*pw (k+1)+f k*2 ^ s%4294967296*pw k=f k*2 ^ s*pw k:=by
   show f k*2 ^ s/4294967296*pw (k+1)+_=_
   rw[Fu,←Nat.mul_assoc,←Nat.add_mul]
   congr 1
   omega
  have Z:f k*pw k*2 ^ s=f k*2 ^ s*pw k:=by rw[Nat.mul_assoc,Nat.mul_comm (pw k),←Nat.mul_assoc]
  omega
def Ou{f:Nat->Nat}{s:Nat}(Z:s<32)(Y:∀i,f i<4294967296):∀i,FN f s i<2 ^ s
 |0=>Nat.two_pow_pos s
 |i+1=>by
  show f i*2 ^ s/4294967296<2 ^ s
  rw[Nat.div_lt_iff_lt_mul Aa];have:=Nat.mul_lt_mul_of_pos_right (Y i) (Nat.two_pow_pos s)
  rwa[Nat.mul_comm 4294967296]at this
def VT(x s:Nat)(Z:s<32):x*2 ^ s%4294967296%2 ^ s=0:=by
 have e:(4294967296:Nat)=2 ^ s*2 ^ (32-s):=by rw[←Nat.pow_add,show s+(32-s)=32 by omega]
 rw[e,Nat.mul_comm x,Nat.mul_mod_mul_left,Nat.mul_mod_right]
def Vs(x s:Nat)(V:s<32):x*2 ^ s%4294967296+2 ^ s<=4294967296:=by
 have W:=VT x s V;have Y:x*2 ^ s%4294967296<4294967296:=Nat.mod_lt _ Aa
 have e:(4294967296:Nat)=2 ^ s*2 ^ (32-s):=by rw[←Nat.pow_add,show s+(32-s)=32 by omega]
 generalize x*2 ^ s%4294967296=y at W Y;have Z:=Nat.div_add_mod y (2 ^ s);rw[W,Nat.add_zero]at Z;rw[e,←Z]at Y;have U:=Nat.lt_of_mul_lt_mul_left Y;have X:2 ^ s*(y/2 ^ s+1)<=2 ^ s*2 ^ (32-s):=Nat.mul_le_mul_left _ U;rw[Nat.mul_add,Nat.mul_one,Z,←e]at X;exact X
def jd{f:Nat->Nat}{s:Nat}(Z:s<32)(Y:∀i,f i<4294967296)(i:Nat):Mr f s i<4294967296:=by
 rw[M7];have:=Vs (f i) s Z;have:=Ou Z Y i;omega
def QJ(f:Nat->Nat)(w:Nat):∀n,AB (fun j=>if j<w then 0 else f (j-w)) (w+n)=AB f n*pw w
 |0=>by
  rw[Nat.add_zero,Ja (a:=0) (Nat.zero_le _) (fun i _ hi=>by rw[Ao hi])]
  simp[AB]
 |n+1=>by
  have Z:=QJ f w n;rw[←Nat.add_assoc]
  unfold AB
  rw[Z,Aj Aa,show w+n-w=n by omega,Nat.add_mul,Nat.mul_assoc,←Xo,Nat.add_comm w n]
def Jq(x n:Nat):Prop:=(x=0->n=0)/\(0<x->0<n/\2 ^ (n-1)<=x/\x<2 ^ n)
def QE{t n:Nat}(h:Jq (t/2) n)(Y:t≠0):Jq t (n+1):=by
 refine⟨fun Z=>absurd Z Y,fun _=>⟨Aa,?_⟩⟩
 rcases Nat.eq_zero_or_pos (t/2)with Z|Z
 .have:=h.1 Z;subst this;have:t=1:=Aa;subst this
  decide
 obtain⟨W,X,V⟩:=h.2 Z;have e:n+1-1=(n-1)+1:=Aa;rw[e,Nat.pow_succ,Nat.pow_succ];omega
def aL{f:Nat->Nat}{n b:Nat}(X:∀i,f i<4294967296)(R:f n≠0)(hb:Jq (f n) b):Jq (AB f (n+1)) (n*32+b):=by
 obtain⟨N,W,V⟩:=hb.2 Aa;have O:=Fw (f:=f) (n:=n) (fun i _=>X i);have M:AB f (n+1)=AB f n+f n*pw n:=rfl;have T:=KW n
 have Y:2 ^ (n*32+b-1)<=f n*pw n:=by
  rw[show n*32+b-1=(b-1)+32*n by omega,Nat.pow_add,←Jz]
  exact Nat.mul_le_mul_right _ W
 have U:f n*pw n+pw n<=2 ^ (n*32+b):=by
  rw[show n*32+b=b+32*n by omega,Nat.pow_add,←Jz]
  have:(f n+1)*pw n<=2 ^ b*pw n:=Nat.mul_le_mul_right _ V
  rwa[Nat.add_mul,Nat.one_mul]at this
 have Z:0<f n*pw n:=Nat.mul_pos Aa T;exact⟨fun h=>by omega,fun _=>⟨Aa,Aa,Aa⟩⟩
def Qe{x n k:Nat}(h:Jq x n):n<=k↔x<2 ^ k:=by
 rcases Nat.eq_zero_or_pos x with Z|Z
 .subst Z;have:=h.1 rfl;have:=Nat.two_pow_pos k;omega
 obtain⟨V,W,U⟩:=h.2 Z
 constructor
 .intro Y;have:2 ^ n<=2 ^ k:=Nat.pow_le_pow_right Aa Y;omega
 intro X;have:2 ^ (n-1)<2 ^ k:=Aa;have:=(Nat.pow_lt_pow_iff_right (by omega:1<2)).1 this;omega
end BigLaw
end Go.Proofs.YtjobajeggllmiaaGreat
