import Derived.Test.YtjobajeggllmiaaGreatPc0
import Derived.Test.YtjobajeggllmiaaGreatPc18
set_option linter.all false
set_option maxHeartbeats 100000000
set_option maxRecDepth 100000
namespace Go.Proofs.YtjobajeggllmiaaGreat
open _root_.Go.Proofs.Tryz
namespace BigW
open Go.RowKit Mem BigLaw
def oF{b:List Nat}(V:small b)(X:DY b){n:Nat}(U:b.length=n+2){N:Nat}(W:Jq (val b) N):n+1=(N-1)/32:=by
 have Y:=Pw X Aa;have Z:=I4 V;rw[U]at Y Z;have L:=KW (n+2-1);obtain⟨M,O,J⟩:=W.2 Aa;rw[Jz]at Y Z
 have T:32*(n+2-1)<N:=by
  rcases Nat.lt_or_ge (32*(n+2-1)) N with h|h
  . exact h
  have:2 ^ N<=2 ^ (32*(n+2-1)):=Nat.pow_le_pow_right Aa h;omega
 have R:N-1<32*(n+2):=by
  rcases Nat.lt_or_ge (N-1) (32*(n+2))with h|h
  . exact h
  have:2 ^ (32*(n+2))<=2 ^ (N-1):=Nat.pow_le_pow_right Aa h;omega
 omega
def VU(x y:Nat)(Z:x<4294967296)(hy:y<4294967296):bits .or .u64 ((y:Int)*4294967296) (x:Int)=((y*4294967296+x:Nat):Int):=by
 have h:=u64_or_nat (y*4294967296) x Aa Aa;rw[Nat.or_comm,Oz x (y*4294967296) 32 Aa Aa]at h;have e:((y*4294967296:Nat):Int)=(y:Int)*4294967296:=Aa;rw[e]at h;exact h
def aX(x y:Nat)(Z:x<4294967296)(hy:y<4294967296):bits .or .u64 ((y:Int)*4294967296) (x:Int)=(y:Int)*4294967296+(x:Int):=by
 rw[VU x y Z hy];omega
def lJ(U V h top:Nat)(Z Y:Value):Prop:=∃g r:Nat,Z=.int .u64 (g:Int)/\Y=.int .u64 (r:Int)/\g<=4294967297/\r<4294967296/\Hid (K6 U V h top g r)
def fG(U V:Nat)(Z:Value):Prop:=∃g:Nat,Z=.int .u64 (g:Int)/\Hid (g<4294967296/\U/V<=g/\g*V<U+V)
def win_zero(u d:Nat->Nat)(j n:Nat):BH .u32 n (fun p=>(u p:Int))=BH .u32 n (fun p=>(win u d j 0 p:Int)):=
 EA fun i hi=>by rw[LJ _ _ Aa]
def NN(u d:Nat->Nat)(j a n:Nat):(BH .u32 n fun p=>(win u d j a p:Int)).setIfInBounds (j+a) (.int .u32 (d a:Nat))=BH .u32 n fun p=>(win u d j (a+1) p:Int):=by
 refine Es fun i hi=>?_
 by_cases e:i=j+a
 . subst e;rw[Ao rfl,MI _ _ Aa]
 rw[Aj e]
 by_cases h:i<j\/j+(a+1)<=i
 . rw[LJ _ _ h,LJ _ _ Aa]
 obtain⟨k,rfl⟩:∃k,i=j+k:=⟨i-j,Aa⟩
 rw[MI _ _ (show k<a+1 by omega),MI _ _ (show k<a by omega)]
def WM(z x d:Nat)(Y:z<4294967296)(Z:x<4294967296)(X:d<=1):
  IntKind.u64.wrap (IntKind.u64.wrap ((z:Int)-(x:Int))-(d:Int))/9223372036854775808=((if z<x+d then 1 else 0:Nat):Int)/\
  IntKind.u64.wrap (IntKind.u64.wrap ((z:Int)-(x:Int))-(d:Int))%4294967296=((if z<x+d then z+4294967296-(x+d)else z-(x+d):Nat):Int):=by
 simp only[Cz]
 split<;>omega
def mW(c g y:Nat):((c:Int)+(g:Int)*(y:Int))%4294967296=(((c+g*y)%4294967296:Nat):Int)/\((c:Int)+(g:Int)*(y:Int))/4294967296=(((c+g*y)/4294967296:Nat):Int):=by
 have:((g*y:Nat):Int)=(g:Int)*(y:Int):=Int.natCast_mul _ _;omega
def pR(Z:World)(U Q L M m:Nat)(u q v:Nat->Nat)(g j:Nat)(T:TypeId)(W X Y:Value)(wr:World):Prop:=
 ∃i:Nat,i<=m/\W=.int .u64 (mulC v g i:Nat)/\X=.int .u64 (En (fun i=>u (j+i)) (CX v g) i:Nat)/\Y=.int .i64 (i:Int)/\
  Ae wr U T (BH .u32 L fun p=>(win u (FT (fun i=>u (j+i)) (CX v g)) j i p:Int))/\Ae wr Q T (BH .u32 M fun i=>(q i:Int))/\Below Z.heap.size Z wr
def nP(Z:World)(U Q L M m:Nat)(u q v d:Nat->Nat)(j:Nat)(T:TypeId)(X Y:Value)(wr:World):Prop:=
 ∃i:Nat,i<=m/\X=.int .u64 (Fz d v i:Nat)/\Y=.int .i64 (i:Int)/\
  Ae wr U T (BH .u32 L fun p=>(win u (GL d v) j i p:Int))/\Ae wr Q T (BH .u32 M fun i=>(q i:Int))/\Below Z.heap.size Z wr
def MG(L:Nat):List Value:=(List.range L).map fun _=>Value.int .u32 0
def Yo(L:Nat):BH .u32 L (fun _=>0)=(MG L).toArray:=rfl
def RH(L:Nat):(MG L).length=L:=by simp[MG]
def Us(u0:List Nat)(L:Nat)(h:u0.length<=L):(splice (MG L) 0 (Em u0)).toArray=BH .u32 L fun i=>(u0.getD i 0:Int):=by
 apply Array.ext_getElem?
 intro i
 unfold splice MG
 rw[List.getElem?_toArray]
 by_cases hi:i<L
 .rw[Cu _ _ _ _ hi]
  by_cases Z:i<u0.length
  . simp[Em,List.getElem?_append,Z]
  rw[List.getD_eq_getElem?_getD,List.getElem?_eq_none (show u0.length<=i by omega)]
  have Y:u0.length+(i-u0.length)=i:=Aa
  simp[Em,List.getElem?_append,Z,Y,hi]
 rw[NM _ _ _ _ Aa]
 simp[Em]
 omega
def fC(A A':Option Addr)(c c':Nat)(l l':List Nat)(w:World)(h:Wd w w.heap.size A c l)(h':Wd w w.heap.size A' c' l')(t:DY l)(t':DY l')(uW:val l'<=val l)(hl:3<=l.length)(wE:2<=l'.length)(wK:l.length<=1000):
  Calls prog 173 #[.slice A l.length c,.slice A' l'.length c'] w fun e w'=>QL w w' (val l/val l') (val l%val l') e:=by
 have uM:=Pw t' Aa
 have O:4294967296<=val l':=Nat.le_trans (KH (show 1<=l'.length-1 by omega)) uM
 have vT:=I4 h.small;have vI:l'.length<=l.length:=length_le t' Aa;obtain⟨n,hn⟩:∃n,l'.length=n+2:=⟨l'.length-2,Aa⟩;obtain⟨m,hm⟩:∃m,l.length=n+m+1:=⟨l.length-n-1,Aa⟩;have wV:1<=m:=Aa;have wO:n+m<=999:=Aa;have wQ:2<=n+m:=Aa;have H:=zz h;have H':=zz h';have T:=zz t;have T':=zz t';have wX:=zz uW;have vH:=zz O;have R:=zz hn;have rD:=zz hm
 have xg:((n:Int)+2==0)=false:=by rw[beq_eq_false_iff_ne];omega
 have wS:((n:Int)+2==1)=false:=by rw[beq_eq_false_iff_ne];omega
 have vG:¬(n:Int)+(m:Int)+1<=2:=Aa
 have wh:¬MB (val l) (val l')<0:=by unfold MB;rw[Aj Aa];split<;>omega
 clear h h' t t' uW uM O vT hl wE wK vI;rw[hm,hn];clear hn hm
 go_in
 go_wp2_with fail;rw[←rD.o,←R.o];refine(Nw A A' c c' l l' _ w Nr H.o H'.o T.o T'.o).mono ?_;rintro e w0 ⟨rfl,qY⟩;rw[rD.o,R.o];have vD:=zz qY;have H0:=zz ((H.o.below qY).more qY.size);have sO:=zz ((H'.o.below qY).more qY.size);generalize MB (val l) (val l')=sg at wh;clear qY;go_wp2_with fail;rw[←R.o];refine(P9 A' c' l' _ w0 sO.o T'.o (by have:=R.o;omega)).mono ?_;rintro e w1 ⟨⟨N,rfl,hN,tV⟩,rfl⟩;rw[R.o]at tV ⊢;have HN:=zz hN;have vP:=oF H'.o.small T'.o R.o hN;obtain⟨s,hs⟩:∃s,s+(N-1)%32=31:=⟨31-(N-1)%32,Aa⟩;have rM:s<32:=Aa;have HS:=zz hs;have vN:(32-((N:Int)-1)%32-1)=(s:Int):=Aa;have uw:1<=N:=Aa;clear hs hN;go_wp2_with fail;rw[←R.o];refine(Qo A' c' l' s 0 s _ w1 Nr sO.o (by have:=R.o;omega) Aa rM Aa).mono ?_;rintro e Z ⟨Av,cv,v,rfl,hv,tv,vv,I⟩;rw[R.o];obtain⟨n',vL,tO,sU⟩:=kg HN.o vH.o HS.o;obtain rfl:n'=n:=Aa;rw[←vv]at tO sU;obtain⟨sN,uH,uq⟩:=ji hv.small tv tO sU;rw[sN];have HV:=zz hv;have sw:=zz sN;have tQ:=zz uH;have rC:=zz (uq.trans vv);have ug:=CU vD I;have H2:=zz ((H0.o.below I).more I.size);clear hv tv vv vL tO sU sN uH uq I uw vN vP tV HN
 go_wp2_with(refine wpList_make_row rfl _ _ _ rfl Ig (n'+m+3) rfl rfl BG BG Aa Aa ?_)
 have tu:Below Z.heap.size Z (Z.alloc (.cells (BH .u32 (n'+m+3) fun _=>0) 172)):=DC;rw[←rD.o];refine(Qo A c l s 0 s Z.heap.size _ Bq (H2.o.below tu) (by have:=rD.o;omega) Aa rM Aa).mono ?_;rintro e w3 ⟨A3,c3,u0,rfl,ru,tY,tJ,M⟩;rw[rD.o]
 have xh:u0.length<=n'+m+2:=by
  refine length_le tY ?_;rw[tJ];have h1:=I4 H.o.small;rw[rD.o]at h1
  have h2:2 ^ s<=4294967296:=(Nat.pow_le_pow_right Aa (show s<=32 by omega):2 ^ s<=2 ^ 32)
  have h3:val l*2 ^ s<pw (n'+m+1)*2 ^ s:=Nat.mul_lt_mul_of_pos_right h1 (Nat.two_pow_pos s);have h4:pw (n'+m+1)*2 ^ s<=pw (n'+m+1)*4294967296:=Nat.mul_le_mul_left _ h2;have h5:pw (n'+m+2)=4294967296*pw (n'+m+1):=Fu _;omega
 have tK:Ae w3 Z.heap.size 172 (BH .u32 (n'+m+3) fun _=>0):=(Ae.new rfl).below M Bq;have sJ:Below Z.heap.size Z w3:=tu.trans (M.mono Bq);have sM:=zz ru;have uO:=zz tJ;rw[Yo]at tK;have qR:=zz tK;have sK:=zz sJ;clear ru tY tJ M tu tK sJ
 have um:Hid (0<(Em u0).length->∃ad,A3=some ad/\∀j v,(Em u0)[j]?=some v-> w3.cell? (ad.add j)=some v):=zz fun hp=>by
  rw[FW]at hp;obtain⟨b,o,e,_,hc⟩:=sM.o.rd.2 hp
  exact⟨_,e,fun j u hu=>by rw[show((⟨b,o,none⟩:Addr).add j)=⟨b,o+j,none⟩by unfold Addr.add;split<;>simp_all];exact hc j u hu⟩
 have uT:=zz (show(Em u0).length=Nat.min u0.length (n'+m+3)by rw[FW];exact(Nat.min_eq_left Aa).symm)
 have u7:=zz (show 0+(Em u0).length<=(MG (n'+m+3)).length by rw[RH,FW];omega)
 go_wp2_with(refine wpList_copy_splice Bb (.tmp 81) (.tmp 84) 155 155 Bb 172 underlying155 Ap (some ⟨Z.heap.size,0,none⟩) A3 (n'+m+3) (n'+m+3) u0.length c3 Bb Bb Z.heap.size 0 (MG (n'+m+3)) 172 qR.o (Em u0) uT.o (fun hp=>⟨rfl,um.o hp⟩) u7.o (Pv u0) Z.heap.size Z sK.o Nr ?_)
 intro w4 sQ uz
 rw[Us u0 _ (show u0.length<=n'+m+3 by omega)]at sQ
 have sZ:=zz (show Ae w4 Z.heap.size 172 (BH .u32 (n'+m+3) fun i=>(u0.getD i 0:Int))from sQ.o)
 have uG:=zz sM.o.small;have vO:=zz uz;have wF:Z.heap.size<w4.heap.size:=sZ.o.lt;clear sQ uz sM qR sK um uT u7 H0 sO H2;have e1:(n':Int)+(m:Int)+3-((n':Int)+2)=(m:Int)+1:=Aa
 go_wp2_with(refine wpList_make_row rfl _ _ _ rfl Ig (m+1) rfl rfl BG BG Aa Aa ?_)
 clear e1;have rW:Below Z.heap.size Z (w4.alloc (.cells (BH .u32 (m+1) fun _=>0) 172)):=vO.o.alloc Aa _;have tF:=sZ.o.alloc (.cells (BH .u32 (m+1) fun _=>0) 172);have rY:Ae (w4.alloc (.cells (BH .u32 (m+1) fun _=>0) 172)) w4.heap.size 172 (BH .u32 (m+1) fun _=>0):=Ae.new rfl;generalize w4.alloc (.cells (BH .u32 (m+1) fun _=>0) 172)=w5 at rW tF rY ⊢;generalize w4.heap.size=Q at wF rY ⊢;have sW:=HV.o.below rW
 obtain⟨bv,ov,rfl,wN,ct⟩:=sW.at_ (show n'+1<v.length by have:=sw.o;omega)
 obtain⟨wP,wU,e,_,cn⟩:=sW.at_ (show n'<v.length by have:=sw.o;omega)
 injection e with e
 injection e with e1 e2
 subst e1 e2;have ht:=getD_lt HV.o.small (n'+1);have rX:=tQ.o;have wo:=getD_lt HV.o.small n'
 have vw:=zz (show ∃top,v.getD (n'+1) 0=top from⟨_,rfl⟩)
 have e1:(n':Int)+2-1=(n':Int)+1:=Aa;have e2:(n':Int)+2-2=(n':Int):=Aa;have e3:((n':Int)+1).toNat=n'+1:=Aa;have e4:(0:Int)<=(n':Int)+1:=Aa;have e5:(n':Int)+1<(n':Int)+2:=Aa;have e6:(n':Int)<(n':Int)+2:=Aa;have e7:IntKind.i64.wrap ((n':Int)+1)=(n':Int)+1:=IntWalk.i64_in _ Aa;clear sW;generalize hT:v.getD (n'+1) 0=top at ct ht rX;generalize hX:v.getD n' 0=next at cn wo;have HT:=zz hT;have HX:=zz hX;clear hT hX vw;go_wp2_with fail
 go_quiet (fail)
 go_wp2_with fail
 have uo:=zz (show ∀wr,Below Z.heap.size Z wr->∀k,k<n'+2-> wr.cell? ⟨bv,ov+k,none⟩=some (.int .u32 (v.getD k 0:Int))from fun wr hb k hk=>by
  obtain⟨b,o,e,_,hc⟩:=(HV.o.below hb).at_ (show k<v.length by have:=sw.o;omega)
  injection e with e
  injection e with e1 e2
  subst e1 e2
  exact hc)
 have rV:=zz (Dg (l:=v) (i:=n'+2) (by have:=sw.o;omega))
 have qZ:=zz (show ∀i,v.getD i 0<4294967296 from fun i=>getD_lt HV.o.small i)
 have uR:=below_drewN rW nq;have tT:=tF.drewN nq;have uF:=rY.drewN nq;clear rW tF rY ct cn e1 e2 e3 e4 e5 e6 e7
 generalize w5.drewN nq=w6 at*
 have uK:Hid (Whole (val l*2 ^ s) (val l'*2 ^ s) (fun i=>u0.getD i 0) (fun _=>0) (n'+2) m (m+1)):=zz (Whole.first (fun i=>getD_lt uG.o i) (fun i hi=>Dg Aa) (by
  rw[←rC.o];have h1:=YG (f:=fun i=>v.getD i 0) (n:=n'+2) (i:=n'+1) Aa;have h2:1*pw (n'+1)<=v.getD (n'+1) 0*pw (n'+1):=Nat.mul_le_mul_right _ (by have:=tQ.o;omega)
  omega) (by rw[FY Aa,uO.o]))
 go_loopw[18] (fun j wr=>∃(k:Nat) (u q:Nat->Nat),k<=m+1/\j=.int .i64 ((k:Int)-1)/\Hid (Whole (val l*2 ^ s) (val l'*2 ^ s) u q (n'+2) m k)/\Ae wr Z.heap.size 172 (BH .u32 (n'+m+3) fun i=>(u i:Int))/\Ae wr Q 172 (BH .u32 (m+1) fun i=>(q i:Int))/\Below Z.heap.size Z wr) (fun j _=>(intOf j+1).toNat)
 .exact⟨m+1,fun i=>u0.getD i 0,fun _=>0,Aa,BG,uK,tT,uF,uR⟩
 clear uR tT uF uK sZ uO uG;obtain⟨k,u,q,hk,rfl,D,V,bq,hb⟩:=hrel
 by_cases uV:0<k
 .obtain⟨j,rfl⟩:∃j,k=j+1:=⟨k-1,Aa⟩
  rw[show((j+1:Nat):Int)-1=(j:Int)by omega]
  have C:=zz (D.o.step (v:=fun i=>v.getD i 0) qZ.o rC.o tQ.o);have c2:=V.cell (j+(n'+2));rw[Cu _ _ _ _ Aa]at c2;have c1:=V.cell (j+(n'+1));rw[Cu _ _ _ _ Aa]at c1;have c0:=V.cell (j+n');rw[Cu _ _ _ _ Aa]at c0;have G:=D.o.hu (j+(n'+2));have J:=D.o.hu (j+(n'+1));have ru:=D.o.hu (j+n');have f1:IntKind.i64.wrap ((j:Int)+((n':Int)+2))=(j:Int)+((n':Int)+2):=IntWalk.i64_in _ Aa;have f2:((j:Int)+((n':Int)+2)).toNat=j+(n'+2):=Aa;have f3:(0:Int)<=(j:Int)+((n':Int)+2):=Aa;have f4:(j:Int)+((n':Int)+2)<(n':Int)+(m:Int)+3:=Aa;have g1:IntKind.i64.wrap ((j:Int)+((n':Int)+2)-1)=(j:Int)+((n':Int)+2)-1:=IntWalk.i64_in _ Aa;have g2:((j:Int)+((n':Int)+2)-1).toNat=j+(n'+1):=Aa;have g3:(0:Int)<=(j:Int)+((n':Int)+2)-1:=Aa;have g4:(j:Int)+((n':Int)+2)-1<(n':Int)+(m:Int)+3:=Aa;have qX:=zz C.o.first;have W:=zz (fun g r=>C.o.less (g:=g) (r:=r));have Y:=zz (fun g r=>C.o.last (g:=g) (r:=r));rw[HT.o,HX.o]at W Y;rw[HT.o]at qX;have hor:=VU (u (j+(n'+1))) (u (j+(n'+2))) J G;obtain⟨h,hh⟩:=AJ (u (j+(n'+2))*4294967296+u (j+(n'+1)));rw[hh]at hor qX W Y;have wC:h<18446744073709551616:=Aa;generalize u (j+n')=x0 at c0 ru W Y
  have uy:h<=top*4294967296+4294967295:=by
   have h0:u (j+(n'+2))<=v.getD (n'+1) 0:=C.o.high;rw[HT.o]at h0;have:=Nat.mul_le_mul_right 4294967296 h0;omega
  generalize u (j+(n'+2))=x2 at c2 G hor;generalize u (j+(n'+1))=x1 at c1 J hor;have sH:h/top<=4294967297:=Vi rX uy;have vC:h%top<top:=Nat.mod_lt _ Aa;have rq:¬(top:Int)=0:=Aa;have rH:¬top=0:=Aa
  have hq:IntKind.u64.wrap ((h:Int)/(top:Int))=((h/top:Nat):Int):=by
   have e:(h:Int)/(top:Int)=((h/top:Nat):Int):=rfl;rw[e,Cz];generalize h/top=g at sH ⊢;omega
  have hr:(h:Int).tmod (top:Int)=((h%top:Nat):Int):=rfl;generalize h/top=g0 at hq sH qX;generalize h%top=r0 at hr vC qX;clear hh uy;go_wp2_with fail
  go_quiet (fail)
  have O:=below_drewN hb nq;have rG:=V.drewN nq;have qV:=bq.drewN nq;have uE:(wr.drewN nq).cell? ⟨Z.heap.size,j+n',none⟩=some (.int .u32 (x0:Int)):=c0;clear hb V bq c0 c1 c2
  generalize wr.drewN nq=u6 at*
  go_wp2_with fail;clear hor f1 f2 f3 f4 g1 g2 g3 g4
  go_quiet (fail)
  go_upto_block 2 with fail
  have I:=below_drewN O nq;have rQ:=rG.drewN nq;have uj:=qV.drewN nq;have wJ:(u6.drewN nq).cell? ⟨Z.heap.size,j+n',none⟩=some (.int .u32 (x0:Int)):=uE;clear O rG qV uE
  generalize u6.drewN nq=wB at*
  go_cut[20] (fun vJ wx=>fG (AB (fun i=>u (j+i)) (n'+3)) (AB (fun i=>v.getD i 0) (n'+2)) vJ/\wx=wB)
  case first=>
   have k1:IntKind.i64.wrap ((j:Int)+((n':Int)+2)-2)=(j:Int)+(n':Int):=by rw[IntWalk.i64_in _ Aa];omega
   have k2:((j:Int)+(n':Int)).toNat=j+n':=Aa;have k3:(0:Int)<=(j:Int)+(n':Int):=Aa;have k4:(j:Int)+(n':Int)<(n':Int)+(m:Int)+3:=Aa;have k5:IntKind.i64.wrap ((j:Int)+((n':Int)+2))=(j:Int)+((n':Int)+2):=IntWalk.i64_in _ Aa;go_wp2_with fail
   go_loop[20,21] (fun sg sr=>lJ (AB (fun i=>u (j+i)) (n'+3)) (AB (fun i=>v.getD i 0) (n'+2)) h top sg sr) (fun _ sr=>4294967296-(intOf sr).toNat)
   .exact⟨g0,r0,rfl,rfl,sH,Aa,qX⟩
   obtain⟨g,r,rfl,rfl,hg,wH,sP⟩:=hrel;have HL:=zz (W.o g r sP.o);have HE:=zz (Y.o g r sP.o)
   by_cases rO:4294967295<g
   .obtain⟨h1,h2⟩:=HL.o (.inl Aa);have B:=zz h2;have qQ:=zz (Y.o (g-1) (r+top) h2);clear h2;have vg:(4294967295:Int)<(g:Int):=Aa;have uN:(1:Int)<=(g:Int):=Aa
    by_cases rJ:4294967295<r+top
    .have rR:(4294967295:Int)<(r:Int)+(top:Int):=Aa;clear rO rJ hr hq rq rH J G;go_wp2_with fail
     go_meet
     exact⟨⟨g-1,congrArg (Value.int .u64) Aa,zz ⟨(qQ.o (.inr Aa)).1,B.o.2,(qQ.o (.inr Aa)).2⟩⟩,rfl⟩
    have rR:¬(4294967295:Int)<(r:Int)+(top:Int):=Aa;clear rO rJ hr hq rq rH J G;go_wp2_with fail;exact⟨⟨g-1,r+top,congrArg (Value.int .u64) Aa,congrArg (Value.int .u64) Aa,Aa,Aa,B⟩,Ck⟩
   have vg:¬(4294967295:Int)<(g:Int):=Aa;have vE:0<=(g:Int)*(next:Int):=Int.mul_nonneg Aa Aa
   have wG:(g:Int)*(next:Int)<18446744073709551616:=by
    have:=Ez (x:=g) (y:=next) Aa Aa;rw[←Int.natCast_mul];omega
   have hor:=aX x0 r ru wH;have E:=zz (Int.natCast_mul g next)
   by_cases wL:(r:Int)*4294967296+(x0:Int)<(g:Int)*(next:Int)
   .have rP:r*4294967296+x0<g*next:=by have:=E.o;omega
    obtain⟨h1,h2⟩:=HL.o (.inr rP);have B:=zz h2;have qQ:=zz (Y.o (g-1) (r+top) h2);clear h2 rP;have uN:(1:Int)<=(g:Int):=Aa
    by_cases rJ:4294967295<r+top
    .have rR:(4294967295:Int)<(r:Int)+(top:Int):=Aa;clear rO rJ hr hq rq rH J G;go_wp2_with fail
     go_meet
     exact⟨⟨g-1,congrArg (Value.int .u64) Aa,zz ⟨(qQ.o (.inr Aa)).1,B.o.2,(qQ.o (.inr Aa)).2⟩⟩,rfl⟩
    have rR:¬(4294967295:Int)<(r:Int)+(top:Int):=Aa;clear rO rJ hr hq rq rH J G;go_wp2_with fail;exact⟨⟨g-1,r+top,congrArg (Value.int .u64) Aa,congrArg (Value.int .u64) Aa,Aa,Aa,B⟩,Ck⟩
   have rP:g*next<=r*4294967296+x0:=by have:=E.o;omega
   obtain⟨h1,h2⟩:=HE.o (.inl ⟨Aa,rP⟩);have qQ:=zz h2;clear rO hr hq rq rH J G h2 rP;go_wp2_with fail
   go_meet
   exact⟨⟨g,rfl,zz ⟨h1,sP.o.2,qQ.o⟩⟩,rfl⟩
  obtain⟨⟨g,rfl,HG⟩,rfl⟩:=hcut;have hg:=HG.o.1;clear hq hr rq rH wJ wC ru J G sH vC qX W Y;go_wp2_with fail
  go_loopw[22,23,24] (fun sc sd si wr=>pR Z Z.heap.size Q (n'+m+3) (m+1) (n'+2) u q (fun i=>v.getD i 0) g j 172 sc sd si wr) (fun _ _ si _=>n'+2-(intOf si).toNat)
  .exact⟨0,Aa,rfl,rfl,rfl,by rw[←win_zero];exact rQ,uj,I⟩
  clear rQ uj I;obtain⟨i,hi,rfl,rfl,rfl,V,bq,hb⟩:=hrel;have rA:=Tz hg qZ.o i;have su:=M9 (fun i=>u (j+i)) (CX (fun i=>v.getD i 0) g) i;have cz:=V.cell (j+i)
  by_cases rE:i<n'+2
  .rw[Cu _ _ _ _ Aa,TP]at cz;have tz:=V.thaw (j+i);have cy:=uo.o wr hb i rE;have hy:=qZ.o i;have hz:=D.o.hu (j+i)
   have HS:=zz (show mulC (fun i=>v.getD i 0) g (i+1)=(mulC (fun i=>v.getD i 0) g i+g*v.getD i 0)/4294967296 from rfl)
   have HP:=zz (show CX (fun i=>v.getD i 0) g i=(mulC (fun i=>v.getD i 0) g i+g*v.getD i 0)%4294967296 from rfl)
   have HD:=zz (show FT (fun i=>u (j+i)) (CX (fun i=>v.getD i 0) g) i=if u (j+i)<CX (fun i=>v.getD i 0) g i+En (fun i=>u (j+i)) (CX (fun i=>v.getD i 0) g) i then u (j+i)+4294967296-(CX (fun i=>v.getD i 0) g i+En (fun i=>u (j+i)) (CX (fun i=>v.getD i 0) g) i)else u (j+i)-(CX (fun i=>v.getD i 0) g i+En (fun i=>u (j+i)) (CX (fun i=>v.getD i 0) g) i)from rfl)
   have E:=zz (show En (fun i=>u (j+i)) (CX (fun i=>v.getD i 0) g) (i+1)=if u (j+i)<CX (fun i=>v.getD i 0) g i+En (fun i=>u (j+i)) (CX (fun i=>v.getD i 0) g) i then 1 else 0 from rfl)
   rw[HP.o]at HD E;have U:=zz (NN u (FT (fun i=>u (j+i)) (CX (fun i=>v.getD i 0) g)) j i (n'+m+3));generalize mulC (fun i=>v.getD i 0) g i=cc at rA HS HP HD E;generalize En (fun i=>u (j+i)) (CX (fun i=>v.getD i 0) g) i=dd at su HD E;generalize v.getD i 0=y at cy hy HS HP HD E;generalize u (j+i)=z at cz hz HD E;have uZ:(i:Int)<(n':Int)+2:=Aa;have vE:0<=(g:Int)*(y:Int):=Int.mul_nonneg Aa Aa
   have wG:(cc:Int)+(g:Int)*(y:Int)<18446744073709551616:=by
    have:=Ez (x:=g) (y:=y) Aa Aa;rw[←Int.natCast_mul];omega
   have f1:IntKind.i64.wrap ((i:Int)+(j:Int))=(i:Int)+(j:Int):=IntWalk.i64_in _ Aa;have f2:((i:Int)+(j:Int)).toNat=j+i:=Aa;have f3:(0:Int)<=(i:Int)+(j:Int):=Aa;have f4:(i:Int)+(j:Int)<(n':Int)+(m:Int)+3:=Aa;go_wp2_with fail;refine⟨?_,Ck⟩;have hm:=mW cc g y;have hs:=WM z ((cc+g*y)%4294967296) dd hz (Nat.mod_lt _ Aa) su;rw[hm.1,hm.2,hs.1,hs.2]
   refine⟨i+1,Aa,by rw[HS.o],by rw[E.o],BG,?_,bq.other (by show Q≠Z.heap.size;omega) _,hb.setCell Nr _⟩
   rw[←U.o,HD.o];exact V.set _ _
  obtain rfl:i=n'+2:=Aa;rw[Cu _ _ _ _ Aa,TP]at cz;have tz:=V.thaw (j+(n'+2));have hz:=D.o.hu (j+(n'+2))
  have HP:=zz (show CX (fun i=>v.getD i 0) g (n'+2)=mulC (fun i=>v.getD i 0) g (n'+2)by
   show(mulC (fun i=>v.getD i 0) g (n'+2)+g*v.getD (n'+2) 0)%4294967296=_
   rw[rV.o];omega)
  have HD:=zz (show FT (fun i=>u (j+i)) (CX (fun i=>v.getD i 0) g) (n'+2)=if u (j+(n'+2))<CX (fun i=>v.getD i 0) g (n'+2)+En (fun i=>u (j+i)) (CX (fun i=>v.getD i 0) g) (n'+2)then u (j+(n'+2))+4294967296-(CX (fun i=>v.getD i 0) g (n'+2)+En (fun i=>u (j+i)) (CX (fun i=>v.getD i 0) g) (n'+2))else u (j+(n'+2))-(CX (fun i=>v.getD i 0) g (n'+2)+En (fun i=>u (j+i)) (CX (fun i=>v.getD i 0) g) (n'+2))from rfl)
  have E:=zz (show En (fun i=>u (j+i)) (CX (fun i=>v.getD i 0) g) (n'+3)=if u (j+(n'+2))<CX (fun i=>v.getD i 0) g (n'+2)+En (fun i=>u (j+i)) (CX (fun i=>v.getD i 0) g) (n'+2)then 1 else 0 from rfl)
  rw[HP.o]at HD E;have U:=zz (NN u (FT (fun i=>u (j+i)) (CX (fun i=>v.getD i 0) g)) j (n'+2) (n'+m+3));generalize mulC (fun i=>v.getD i 0) g (n'+2)=cc at rA HP HD E;generalize En (fun i=>u (j+i)) (CX (fun i=>v.getD i 0) g) (n'+2)=dd at su HD E;generalize u (j+(n'+2))=z at cz hz HD E;have f1:IntKind.i64.wrap ((j:Int)+((n':Int)+2))=(j:Int)+((n':Int)+2):=IntWalk.i64_in _ Aa;have f2:((j:Int)+((n':Int)+2)).toNat=j+(n'+2):=Aa;have f3:(0:Int)<=(j:Int)+((n':Int)+2):=Aa;have f4:(j:Int)+((n':Int)+2)<(n':Int)+(m:Int)+3:=Aa;have hs:=WM z cc dd hz rA su;obtain⟨t,uL⟩:∃t:Nat,IntKind.u64.wrap (IntKind.u64.wrap ((z:Int)-(cc:Int))-(dd:Int))=(t:Int):=⟨(IntKind.u64.wrap (IntKind.u64.wrap ((z:Int)-(cc:Int))-(dd:Int))).toNat,by simp only[Cz];omega⟩;rw[uL,←HD.o]at hs;have wm:=hs.2
  have wZ:t<18446744073709551616:=by rw[Cz]at uL;omega
  have rZ:=V.set (j+(n'+2)) (.int .u32 (FT (fun i=>u (j+i)) (CX (fun i=>v.getD i 0) g) (n'+2):Nat));rw[U.o]at rZ
  have rF:=bq.other (p:=⟨Z.heap.size,j+(n'+2),none⟩) (show Q≠Z.heap.size by omega) (.int .u32 (FT (fun i=>u (j+i)) (CX (fun i=>v.getD i 0) g) (n'+2):Nat))
  have sG:=hb.setCell (p:=⟨Z.heap.size,j+(n'+2),none⟩) Nr (.int .u32 (FT (fun i=>u (j+i)) (CX (fun i=>v.getD i 0) g) (n'+2):Nat));have uh:FT (fun i=>u (j+i)) (CX (fun i=>v.getD i 0) g) (n'+2)<4294967296:=Kg (fun i=>D.o.hu _) _;generalize vV:FT (fun i=>u (j+i)) (CX (fun i=>v.getD i 0) g) (n'+2)=DD at wm rZ rF sG uh;clear vV;have qR:=zz rZ;clear rZ;have cq:=rF.cell j;rw[Cu _ _ _ _ Aa,D.o.low j Aa]at cq;have tq:=rF.thaw j;have wY:(j:Int)<(m:Int)+1:=Aa;have uI:Hid (0<val l'*2 ^ s):=zz (by rw[←rC.o];exact C.o.pos);have sI:Hid (val l'*2 ^ s<pw (n'+2)):=zz (by rw[←rC.o];exact Fw (fun i _=>qZ.o i))
  by_cases qW:z<cc+dd
  .have uD:En (fun i=>u (j+i)) (CX (fun i=>v.getD i 0) g) (n'+3)≠0:=by rw[E.o,Ao qW];omega
   obtain⟨wW,F,qU⟩:=C.o.back rV.o hg HG.o.2.2 uD;rw[rC.o]at F qU;have sD:=zz (D.o.next' Aa sI.o (d:=GL (FT (fun i=>u (j+i)) (CX (fun i=>v.getD i 0) g)) (fun i=>v.getD i 0)) (g:=g-1) (fun i=>Nat.mod_lt _ Aa) Aa F qU uI.o)
   have r9:((t:Int)/9223372036854775808 !=0)=true:=by rw[hs.1,Ao qW];rfl
   have uN:(1:Int)<=(g:Int):=Aa;clear hs qW rE F qU uD cq tq;go_wp2_with fail;have rT:=zz qR.o;have uP:=zz rF;have uY:=zz sG
   generalize wr.setCell ⟨Z.heap.size,j+(n'+2),none⟩ (.int .u32 (DD:Int))=wR at*
   clear rF sG hb V bq;have tZ:∀i,FT (fun i=>u (j+i)) (CX (fun i=>v.getD i 0) g) i<4294967296:=fun i=>Kg (fun i=>D.o.hu _) i;have rU:=zz tZ;clear tZ;generalize FT (fun i=>u (j+i)) (CX (fun i=>v.getD i 0) g)=X at rT sD rU HD U qR
   go_loopw[22,27] (fun sc si wr=>nP Z Z.heap.size Q (n'+m+3) (m+1) (n'+2) (win u X j (n'+3)) q (fun i=>v.getD i 0) X j 172 sc si wr) (fun _ si _=>n'+2-(intOf si).toNat)
   .exact⟨0,Aa,rfl,rfl,by rw[←win_zero];exact rT.o,uP.o,uY.o⟩
   clear rT uP uY HD U qR E HP;obtain⟨i,hi,rfl,rfl,V,bq,hb⟩:=hrel;have rA:=Mc rU.o qZ.o i;have cz:=V.cell (j+i)
   by_cases rE:i<n'+2
   .rw[Cu _ _ _ _ Aa,TP,MI _ _ Aa]at cz;have tz:=V.thaw (j+i);have cy:=uo.o wr hb i rE;have hy:=qZ.o i;have hz:=rU.o i
    have HS:=zz (show Fz X (fun i=>v.getD i 0) (i+1)=(X i+v.getD i 0+Fz X (fun i=>v.getD i 0) i)/4294967296 from rfl)
    have HA:=zz (show GL X (fun i=>v.getD i 0) i=(X i+v.getD i 0+Fz X (fun i=>v.getD i 0) i)%4294967296 from rfl)
    have U:=zz (NN (win u X j (n'+3)) (GL X (fun i=>v.getD i 0)) j i (n'+m+3));generalize Fz X (fun i=>v.getD i 0) i=cc at rA HS HA;generalize v.getD i 0=y at cy hy HS HA;generalize X i=z at cz hz HS HA;have uZ:(i:Int)<(n':Int)+2:=Aa;have f1:IntKind.i64.wrap ((i:Int)+(j:Int))=(i:Int)+(j:Int):=IntWalk.i64_in _ Aa;have f2:((i:Int)+(j:Int)).toNat=j+i:=Aa;have f3:(0:Int)<=(i:Int)+(j:Int):=Aa;have f4:(i:Int)+(j:Int)<(n':Int)+(m:Int)+3:=Aa;go_wp2_with fail
    go_quiet (fail)
    go_wp2_with fail;refine⟨?_,Ck⟩
    have e:((cc:Int)+((z:Int)+(y:Int)))%4294967296=((GL X (fun i=>v.getD i 0) i:Nat):Int):=by rw[HA.o];omega
    refine⟨i+1,Aa,by rw[HS.o];go_num,BG,?_,(bq.drewN nq).other (by show Q≠Z.heap.size;omega) _,(below_drewN hb nq).setCell Nr _⟩
    rw[←U.o,e];exact(V.drewN nq).set _ _
   obtain rfl:i=n'+2:=Aa;rw[Cu _ _ _ _ Aa,TP,MI _ _ Aa]at cz;have tz:=V.thaw (j+(n'+2));have hz:=rU.o (n'+2)
   have HA:=zz (show GL X (fun i=>v.getD i 0) (n'+2)=(X (n'+2)+v.getD (n'+2) 0+Fz X (fun i=>v.getD i 0) (n'+2))%4294967296 from rfl)
   rw[rV.o]at HA;have U:=zz (NN (win u X j (n'+3)) (GL X (fun i=>v.getD i 0)) j (n'+2) (n'+m+3));generalize Fz X (fun i=>v.getD i 0) (n'+2)=cc at rA HA;generalize X (n'+2)=z at cz hz HA;have f1:IntKind.i64.wrap ((j:Int)+((n':Int)+2))=(j:Int)+((n':Int)+2):=IntWalk.i64_in _ Aa;have f2:((j:Int)+((n':Int)+2)).toNat=j+(n'+2):=Aa;have f3:(0:Int)<=(j:Int)+((n':Int)+2):=Aa;have f4:(j:Int)+((n':Int)+2)<(n':Int)+(m:Int)+3:=Aa
   have f5:((z:Int)+(cc:Int))%4294967296=((GL X (fun i=>v.getD i 0) (n'+2):Nat):Int):=by rw[HA.o];omega
   have rG:=V.set (j+(n'+2)) (.int .u32 (GL X (fun i=>v.getD i 0) (n'+2):Nat));rw[U.o]at rG
   have qV:=bq.other (p:=⟨Z.heap.size,j+(n'+2),none⟩) (show Q≠Z.heap.size by omega) (.int .u32 (GL X (fun i=>v.getD i 0) (n'+2):Nat))
   have O:=hb.setCell (p:=⟨Z.heap.size,j+(n'+2),none⟩) Nr (.int .u32 (GL X (fun i=>v.getD i 0) (n'+2):Nat))
   have rQ:Ae (wr.setCell ⟨Z.heap.size,j+(n'+2),none⟩ (.int .u32 (GL X (fun i=>v.getD i 0) (n'+2):Nat))) Z.heap.size 172 (BH .u32 (n'+m+3) fun i=>(win u (GL X (fun i=>v.getD i 0)) j (n'+3) i:Int)):=by
    rw[←EA (f:=fun p=>((win (win u X j (n'+3)) (GL X (fun i=>v.getD i 0)) j (n'+2+1) p:Nat):Int)) (fun p _=>by rw[mF])];exact rG
   have tX:=zz rQ;have cq:=qV.cell j;rw[Cu _ _ _ _ Aa,D.o.low j Aa]at cq;have tq:=qV.thaw j;clear rG rQ HA U rE;generalize GL X (fun i=>v.getD i 0) (n'+2)=da at f5 tX qV O cq tq;go_wp2_with fail
   refine⟨⟨j,win u (GL X (fun i=>v.getD i 0)) j (n'+3),fun i=>if i=j then g-1 else q i,Aa,rfl,sD,tX.o.other (by show Z.heap.size≠Q;omega) _,?_,O.setCell (by show Z.heap.size<=Q;omega) _⟩,by simp[intOf]⟩
   have L:=qV.set j (.int .u32 ((g-1:Nat):Int))
   rw[Es (g:=fun i=>(((if i=j then g-1 else q i):Nat):Int)) (fun i _=>by by_cases e:i=j<;>simp[e])]at L
   rw[show(g:Int)-1=((g-1:Nat):Int)by omega]
   exact L
  have vk:En (fun i=>u (j+i)) (CX (fun i=>v.getD i 0) g) (n'+3)=0:=by rw[E.o,Aj qW]
  obtain⟨F,qU⟩:=C.o.nX rV.o hg HG.o.2.1 vk;rw[rC.o]at F qU;have sD:=zz (D.o.next' Aa sI.o (d:=FT (fun i=>u (j+i)) (CX (fun i=>v.getD i 0) g)) (g:=g) (fun i=>Kg (fun i=>D.o.hu _) i) hg F qU uI.o)
  have r9:((t:Int)/9223372036854775808 !=0)=false:=by rw[hs.1,Aj qW];rfl
  clear hs qW rE F qU vk;go_wp2_with fail
  refine⟨⟨j,win u (FT (fun i=>u (j+i)) (CX (fun i=>v.getD i 0) g)) j (n'+3),fun i=>if i=j then g else q i,Aa,rfl,sD,qR.o.other (by show Z.heap.size≠Q;omega) _,?_,sG.setCell (by show Z.heap.size<=Q;omega) _⟩,by simp[intOf]⟩
  have L:=rF.set j (.int .u32 (g:Int))
  rw[Es (g:=fun i=>(((if i=j then g else q i):Nat):Int)) (fun i _=>by by_cases e:i=j<;>simp[e])]at L
  exact L
 obtain rfl:k=0:=Aa;obtain⟨hq,hr⟩:=D.o.done
 have HQ:=zz (show val ((List.range (m+1)).map q)=val l/val l' by
  rw[GK,hq,Nat.mul_div_mul_right _ _ (Nat.two_pow_pos s)])
 have HR:=zz (show val ((List.range (n'+m+3)).map u)=val l%val l'*2 ^ s by
  rw[GK,show n'+m+3=m+(n'+2)+1 by omega,hr,Nat.mul_mod_mul_right])
 have wM:=V.lt;have F:=bq.lt;have ul:=zz (ES bq Aa (fun i _=>D.o.hq i));have vz:=zz (ES V Aa (fun i _=>D.o.hu i));have tH:=FK _ _ _ _ _ ul.o;have tC:=FK _ _ _ _ _ vz.o;rw[List.length_map,List.length_range]at tH tC;have vZ:=zz tH;have vR:=zz tC;have sS:=zz (Bh ug.o (by have:=ug.o.size;omega) hb);clear hq hr tH tC V bq uV;go_wp2_with fail;refine vZ.o.mono ?_;rintro e w7 ⟨uJ,rfl⟩;obtain⟨A1,c1,l1,rfl,uf,r9,uX,O⟩:=Dc (n:=val l/val l') ul.o Aa sS.o HQ.o uJ;have wI:=zz uf;have B:=zz r9;have vS:=zz uX;clear uJ uf r9 uX;go_wp2_with fail;refine vR.o.mono ?_;rintro e w7 ⟨tL,rfl⟩;obtain⟨A2,c2,l2,rfl,ve,rX,vB,I⟩:=Dc (n:=val l%val l'*2 ^ s) vz.o Aa sS.o HR.o tL;have vX:=zz ve;have vY:=zz vB
 have vG:l2.length<=n'+m+3:=by
  obtain⟨kk,vM,e,_⟩:=tL
  injection e with e
  injection e with e1 e2 e3
  rw[List.length_map,List.length_range]at vM;omega
 clear tL ve rX vB;go_wp2_with fail;refine(Lu A2 c2 l2 s 0 s _ _ Nr vX.o Aa Aa rM Aa).mono ?_;rintro e w8 ⟨vW,vF,l3,rfl,uS,uQ,uU,M⟩;have vQ:=zz uS;have vU:=zz uQ
 have wD:=zz (show val l3=val l%val l' by rw[uU,vY.o,Nat.mul_div_cancel _ (Nat.two_pow_pos s)])
 have vK:=CU sS M;have vo:=zz ((wI.o.below M).more M.size);clear uS uQ uU M;go_wp2_with fail
 go_ret2
 exact⟨A1,c1,l1,vW,vF,l3,rfl,vo.o,B.o,vS.o,vQ.o,vU.o,wD.o,vK.o⟩
end BigW
namespace BigW
open Go.RowKit Mem BigLaw
def val_one{l:List Nat}(h:l.length=1):val l=l.getD 0 0:=by
 rw[Tw Aa,Dg (l:=l) (i:=1) Aa];omega
def gU(r:Nat)(Z:r<4294967296)(w:World):val ((List.range 1).map fun _=>r)=r:=by
 rw[GK];show 0+r*pw 0=r;rw[KA];omega
def U4(A V:Option Addr)(c U:Nat)(l Z:List Nat)(w:World)(h:Wd w w.heap.size A c l)(O:Wd w w.heap.size V U Z)(t:DY l)(t':DY Z)(Y:val l<val Z)(M:l.length<=1000):
  Calls prog 173 #[.slice A l.length c,.slice V Z.length U] w fun e w'=>QL w w' (val l/val Z) (val l%val Z) e:=by
 have H:=zz h;have B:=zz O;have T:=zz t;have F:=zz t'
 have I:((Z.length:Int)==0)=false:=by
  rw[beq_eq_false_iff_ne];intro e
  rw[List.eq_nil_of_length_eq_zero (show Z.length=0 by omega),Np]at Y
  omega
 have W:MB (val l) (val Z)<0:=by unfold MB;rw[Ao Y];omega
 have G:=zz (Nat.div_eq_of_lt Y);have D:=zz (Nat.mod_eq_of_lt Y);clear h O t t' Y
 go_in
 go_wp2_with fail;refine(Nw A V c U l Z _ w Nr H.o B.o T.o F.o).mono ?_;rintro e N ⟨rfl,X⟩;have L:=zz ((H.o.below X).more X.size);generalize MB (val l) (val Z)=z at W;go_wp2_with fail;refine(NE A c l _ N Nr L.o Aa).mono ?_;rintro e y ⟨E,J,rfl,R,hb⟩;have C:=zz R;clear R;go_wp2_with fail
 go_ret2
 exact⟨none,0,[],E,J,l,rfl,Wd.nil _ _,fun h=>by simp at h,by rw[G.o];rfl,C.o,T.o,D.o.symm,Bh X Nr hb⟩
def XZ(A i:Option Addr)(c c':Nat)(l Z:List Nat)(w:World)(h:Wd w w.heap.size A c l)(j:Wd w w.heap.size i c' Z)(t:DY l)(t':DY Z)(qU:val Z<=val l)(hl:3<=l.length)(W:Z.length=1)(qV:l.length<=1000):
  Calls prog 173 #[.slice A l.length c,.slice i Z.length c'] w fun e w'=>QL w w' (val l/val Z) (val l%val Z) e:=by
 have H:=zz h;have H':=zz j;have T:=zz t;have T':=zz t';have O:=zz W
 have v:¬MB (val l) (val Z)<0:=by unfold MB;rw[Aj Aa];split<;>omega
 have g:=t' Aa;rw[W]at g;have HV:=zz (val_one W);have R:=getD_lt j.small 0;have qW:¬(l.length:Int)<=2:=Aa;clear h j t t' qU;have U:0<Z.getD 0 0:=Nat.pos_of_ne_zero g;rw[HV.o,W];obtain⟨d,B⟩:=AJ (Z.getD 0 0);rw[B]at R U ⊢;have HD:=zz B;clear W g B
 go_in
 go_wp2_with fail;rw[←O.o];refine(Nw A i c c' l Z _ w Nr H.o H'.o T.o T'.o).mono ?_;rintro e w0 ⟨rfl,Y⟩;rw[O.o];have H0:=zz ((H.o.below Y).more Y.size);have p:=zz ((H'.o.below Y).more Y.size);generalize MB (val l) (val Z)=sg at v
 obtain⟨b,o,rfl,_,hc⟩:=p.o.at_ (show 0<Z.length by have:=O.o;omega)
 rw[Nat.add_zero,HD.o]at hc;go_wp2_with fail;refine(aP A c l d _ w0 Nr H0.o Aa U R).mono ?_;rintro e E ⟨A1,c1,l1,rfl,D,C,N,qR⟩;have qQ:=zz D;have q:=zz C;have u:=zz N;have m:=zz (Bh Y Nr qR);have V:val l%d<4294967296:=Nat.lt_trans (Nat.mod_lt _ U) R;generalize hR:val l%d=r at V ⊢;have HR:=zz hR;clear D C N hR;go_wp2_with fail;have J:Ae (E.alloc (.cells #[.int .u32 (r:Int)] 172)) E.heap.size 172 (BH .u32 1 fun _=>(r:Int)):=Ae.new rfl;have F:=zz (ES (f:=fun _=>r) J Aa (fun _ _=>V));have hT:=FK _ _ _ _ _ F.o;rw[List.length_map,List.length_range]at hT;refine hT.mono ?_;rintro e w2 ⟨ht,rfl⟩;have X:Below E.heap.size E (E.alloc (.cells #[.int .u32 (r:Int)] 172)):=DC;obtain⟨A2,c2,l2,rfl,M,I,L,s⟩:=Dc (n:=r) F.o Bq X (gU r V w) ht;have x:=zz M;have z:=zz I;have k:=zz (L.trans HR.o.symm);have G:=zz ((qQ.o.below X).more X.size);have y:=CU m X;clear ht M I L s X J;go_wp2_with fail
 go_ret2
 exact⟨A1,c1,l1,A2,c2,l2,rfl,G.o,q.o,u.o,x.o,z.o,k.o,y.o⟩
def kG(A X:Option Addr)(c W:Nat)(l Z:List Nat)(w:World)(h:Wd w w.heap.size A c l)(V:Wd w w.heap.size X W Z)(t:DY l)(t':DY Z)(T:0<val Z)(Y:l.length<=1000):
  Calls prog 173 #[.slice A l.length c,.slice X Z.length W] w fun e w'=>QL w w' (val l/val Z) (val l%val Z) e:=by
 by_cases O:val l<val Z
 . exact U4 A X c W l Z w h V t t' O Y
 by_cases R:l.length<=2
 . exact TK A X c W l Z w h V t t' T R
 have M:0<Z.length:=by
  rcases Nat.eq_zero_or_pos Z.length with U|U
  . rw[List.eq_nil_of_length_eq_zero U,Np]at T;omega
  exact U
 by_cases N:Z.length=1
 . exact XZ A X c W l Z w h V t t' Aa Aa N Y
 exact fC A X c W l Z w h V t t' Aa Aa Aa Y
end BigW
namespace BigW
open Go.RowKit Mem BigLaw
def Hu(p t s:Nat)(X Y:Int)(w:World)(r:Dz w p)(x:Cm w t X)(hy:Cm w s Y)(z:X.natAbs<pw 100)(B:Y.natAbs<pw 100):
  Calls prog 85 #[.pointer (some ⟨p,0,none⟩),.pointer (some ⟨t,0,none⟩),.pointer (some ⟨s,0,none⟩)] w fun e w'=>e=.returned (.pointer (some ⟨p,0,none⟩))/\Cm w' p (X+Y)/\w.grownBy w' (some p):=by
 obtain⟨A,c,l,x0,x1,y,D,H⟩:=x.parts;obtain⟨i,c',d,y0,y1,v,M,R⟩:=hy.parts;have b:=zz (Jw D H z);have G:=zz (Jw M R B);have L:=zz y;have J:=zz D;have F:=zz H;have C:=zz v;have T:=zz M;have N:=zz R;have u:=zz r;clear y D H v M R r x hy z B
 go_in
 go_wp2_with fail
 go_region_law (first
  |(go_simp;go_at_call 111;refine(LW _ _ A i c c' l d X Y _ L.o.drew C.o.drew J.o T.o F.o N.o (Lr X) (Lr Y) b.o G.o).mono ?_;rintro e j ⟨s1,f,m,q,rfl,E,U,V,I,Z⟩)
  |(go_simp;go_at_call 110;refine(FZ p _ f q m _ (X+Y) (u.o.drew.below Z u.o.lt) E U V (Ij U V _ I)).mono ?_;rintro e w2 ⟨rfl,W,O⟩))
 all_goals
  have k:=zz W;clear W;go_wp2_with fail
  go_ret
  exact⟨rfl,k.o,(show w.grownBy j (some p)from⟨Z.os,Z.tape,Z.output,Z.size,fun g n _=>Z.block g n⟩).trans O⟩
end BigW
namespace BigW
open Go.RowKit Mem BigLaw
def Qx(p t s:Nat)(X Y:Int)(w:World)(r:Dz w p)(x:Cm w t X)(hy:Cm w s Y)(z:X.natAbs<pw 100)(B:Y.natAbs<pw 100):
  Calls prog 154 #[.pointer (some ⟨p,0,none⟩),.pointer (some ⟨t,0,none⟩),.pointer (some ⟨s,0,none⟩)] w fun e w'=>e=.returned (.pointer (some ⟨p,0,none⟩))/\Cm w' p (X+ -Y)/\w.grownBy w' (some p):=by
 obtain⟨A,c,l,x0,x1,y,D,H⟩:=x.parts;obtain⟨i,c',d,y0,y1,v,M,R⟩:=hy.parts;have b:=zz (Jw D H z);have G:=zz (Jw M R B);have L:=zz y;have J:=zz D;have F:=zz H;have C:=zz v;have T:=zz M;have N:=zz R;have u:=zz r;clear y D H v M R r x hy z B
 go_in
 go_wp2_with fail
 go_region_law (first
  |(go_simp;go_at_call 111;refine(LW _ _ A i c c' l d X (-Y) _ L.o.drew C.o.drew J.o T.o F.o (N.o.trans (Int.natAbs_neg Y).symm) (Lr X) (Lr Y).neg b.o G.o).mono ?_;rintro e j ⟨s1,f,m,q,rfl,E,U,V,I,Z⟩)
  |(go_simp;go_at_call 110;refine(FZ p _ f q m _ (X+ -Y) (u.o.drew.below Z u.o.lt) E U V (Ij U V _ I)).mono ?_;rintro e w2 ⟨rfl,W,O⟩))
 all_goals
  have k:=zz W;clear W;go_wp2_with fail
  go_ret
  exact⟨rfl,k.o,(show w.grownBy j (some p)from⟨Z.os,Z.tape,Z.output,Z.size,fun g n _=>Z.block g n⟩).trans O⟩
end BigW
end Go.Proofs.YtjobajeggllmiaaGreat
