import Derived.Test.YtjobajeggllmiaaGreatPc0
import Derived.Test.YtjobajeggllmiaaGreatPc28
set_option linter.all false
set_option maxHeartbeats 100000000
set_option maxRecDepth 100000
namespace Go.Proofs.YtjobajeggllmiaaGreat
open Ms Rg _root_.Go.Proofs.Tryz
namespace Nd
open Go.RowKit Mem Rws Flat BigW Md
def PR(a s x:Nat):Bool:=decide (x%3<a)||(decide (x%3=a)&&decide (x/3<s))
def Y8(a s:Nat)(Y:a<3)(x:Nat)(Z:x<12):PR a (s+1) x=(PR a s x||x==s*3+a):=by
 unfold PR
 rw[Bool.eq_iff_iff]
 simp
 omega
def lU(a:Nat)(x:Nat)(Z:x<12):PR a 4 x=PR (a+1) 0 x:=by
 unfold PR
 rw[Bool.eq_iff_iff]
 simp
 omega
def nT(x:Nat)(Z:x<12):PR 3 0 x=Dp x:=by
 unfold PR Dp
 simp
 omega
def R9(f:Nat->Value)(hf:∀i,i<73->C9 (Ar i) (f i))(k:Nat)(hk:k<4)(uI:f 0=.int .i64 (k:Int))(fr:Int)(uj:f 1=.int .i64 fr)(A:Option Addr)(c:Nat)(Y:List Bool)(AI:Option Addr)(ci:Nat)(ms:List Cw)(B:Nat)(w:World)(hB:B<=w.heap.size)(hA:A=none->c=0)(uQ:Y.length<=c)(hl:Y.length<=140737488351232)(hr:Rd w B 1 A Y.length (Au Y))(uP:ms.length<=140737488355328)(hm:Cc w B AI ms)(hw:∀i z,i<73->f i=.int .i64 z->Wf z)(uf:∀m∈ms,∀z∈m.zs,Wf z):
  Calls prog 27 #[.agg (row 74 (Ab f (.slice A Y.length c))),.slice AI ms.length ci] w fun e w'=>Ej w w' (Kv k (GD k fr ms f) f) Y 3 (k:Int) fr [EF (Bv f (GD k fr ms f) Dp 3 3)] e:=by
 have rX:∀(A:Option Addr) (n c:Nat),(row 74 (Ab f (.slice A n c))).all (·.oneCell')=true:=fun A n c=>Cv hf;have sI:=zz (Ot hf hw uf k fr);have uY:=zz (fun a (ha:a<3)=>iO hf hw a ha);have rR:=zz (fun i (hi:2<=i/\i<6)=>jJ hf hw i hi);clear hw uf;have b:=zz rX;have HF:=zz hf;have rM:=zz uI;have tK:=zz uj;clear hf rX uI uj
 go_in
 go_upto_region 1 with fail
 have D3:Hid (Ae (((w.alloc (.cells (row 74 (Ab f (.slice A Y.length c))) 37)).alloc (.cells zeroCells37 37)).alloc (.cells QV 65)) w.heap.size 37 (row 74 (Ab f (.slice A Y.length c)))):=zz (((Ae.new rfl).alloc _).alloc _);have D6:Hid (Ae (((w.alloc (.cells (row 74 (Ab f (.slice A Y.length c))) 37)).alloc (.cells zeroCells37 37)).alloc (.cells QV 65)) (w.heap.size+1) 37 zeroCells37):=zz ((Ae.new Bq).alloc _);have D7:Hid (Ae (((w.alloc (.cells (row 74 (Ab f (.slice A Y.length c))) 37)).alloc (.cells zeroCells37 37)).alloc (.cells QV 65)) (w.heap.size+1+1) 65 QV):=zz (Ae.new Bq);have J:=zz (((((Below.refl w.heap.size w).alloc Nr (.cells (row 74 (Ab f (.slice A Y.length c))) 37)).alloc Bq (.cells zeroCells37 37)).alloc Ec (.cells QV 65)));have HR:=zz hr;have vE:=zz hm;clear hr hm
 generalize(((w.alloc (.cells (row 74 (Ab f (.slice A Y.length c))) 37)).alloc (.cells zeroCells37 37)).alloc (.cells QV 65))=W at*
 have rY:∀A (n:Nat) c,(prog.info? 37).map (·.size)=some (row 74 (Ab f (.slice A n c))).size:=fun A n c=>by rw[Ag];kernel_rfl
 have HI:=zz rY;clear rY;have vT:w.heap.size+1+1<W.heap.size:=D7.o.lt;have uH:=HI.o A Y.length c;obtain⟨R1,sM⟩:=AJ (row 74 (Ab f (.slice A Y.length c)));have sD:=zz sM;rw[sM]at D3 uH;clear sM
 go_wp2_with(refine Ad rfl 37 _ rfl w.heap.size rfl D3.o _ underlying37 rfl uH ?_)
 rw[←sD.o];refine(Ey f HF.o A c Y B _ (Nat.le_trans hB J.o.size) hA uQ hl (HR.o.below (J.o.mono hB))).mono ?_;rintro e w1 ⟨X,V,rfl,G,qR⟩;rw[sD.o];have uG:=zz G;have uh:=CU J qR;have vz:=qR.size;have rO:=HI.o X Y.length V;have sN:=b.o X Y.length V
 have sS:(row 74 (Ab f (.slice X Y.length V)))[0]?=some (.int .i64 (k:Int)):=by rw[Ah Aa];exact congrArg some rM.o
 have uJ:(row 74 (Ab f (.slice X Y.length V)))[1]?=some (.int .i64 fr):=by rw[Ah Aa];exact congrArg some tK.o
 have sZ:R1.size=(row 74 (Ab f (.slice X Y.length V))).size:=by rw[←sD.o,Ag,Ag]
 obtain⟨R2,sO⟩:=AJ (row 74 (Ab f (.slice X Y.length V)));have u7:=zz sO;rw[sO]at rO sN sS uJ sZ ⊢;clear sO;have E3:=AU D3 qR;have F3:=zz (E3.o.setRow R2);have F6:=zz ((D6.o.below qR D6.o.lt).setRow_other (g':=w.heap.size) Aa R2);have F7:=zz ((D7.o.below qR D7.o.lt).setRow_other (g':=w.heap.size) Aa R2);have uy:=zz (below_setRow uh.o Nr R2)
 have ug:=zz (Ay uG.o (show w.heap.size<W.heap.size by omega) R2)
 have cT:=fun w=>JG R2 (k:Int) sS w;have vO:¬((k:Int)<0):=Aa
 have uK:Dt (k:Int)=false:=by unfold Dt;simp;omega
 rw[uK]at cT;clear qR G uK
 go_upto_region 4 with(first
  |(refine wpList_store_row rfl 37 _ _ rfl w.heap.size R2 rfl rfl 37 _ E3.o rO sZ sN ?_)
  |(refine Ad rfl 37 _ rfl w.heap.size rfl F3.o _ underlying37 rfl rO ?_)
  |(go_at_call 51;refine(cT _).mono ?_;rintro e w3 ⟨rfl,r⟩;have G3:=AU F3 r;have G6:=AU F6 r;have L:=AU F7 r;have tL:=CU uy r;have uo:=GJ ug r;have uV:=Nat.le_trans vz (Nat.le_trans (show w1.heap.size<=(w1.setRow w.heap.size R2).heap.size from(below_setRow (Below.refl 0 w1) (Nat.zero_le _) R2).size) r.size);clear r))
 clear J uh uy uG ug D3 D6 D7 E3 F3 F6 F7 cT sZ;have T:Hid (NK w w.heap.size X V Y w3):=zz ⟨tL.o,G6.o,L.o,Bf uo.o Aa⟩;rw[←u7.o]at G3
 have tO:=zz (fun j:Nat=>show GD k fr ms f j=Fh k (j/3) (OB f j) j (fun i=>Be (k:Int) fr 2 12 (i:Int) ms)from rfl)
 clear uo tL sN sS uJ rO HR uV G6 L;obtain⟨z,hz⟩:=AJ (GD k fr ms f);have tQ:=zz hz;rw[hz]at sI tO;clear hz
 have G3:=zz (show Ae w3 w.heap.size 37 (row 74 (Ab (Bv f z (PR 0 0) 0 0) (.slice X Y.length V)))from by rw[QR f z _ (fun j hj=>by unfold PR;simp)];exact G3.o)
 have uZ:=zz (fun v (hv:Below w.heap.size w v)=>vE.o.below (hv.mono hB));go_wp2_with fail
 go_loopw[6] (fun iv wr=>∃a:Nat,a<=3/\iv=.int .i64 (a:Int)/\Ae wr w.heap.size 37 (row 74 (Ab (Bv f z (PR a 0) a a) (.slice X Y.length V)))/\NK w w.heap.size X V Y wr) (fun iv _=>3-(intOf iv).toNat)
 .exact⟨0,Aa,rfl,G3.o,T.o⟩
 obtain⟨a,ha,rfl,rD,hd⟩:=hrel;clear G3 T;have G3:=zz rD;have T:=zz hd;clear rD hd
 by_cases M:a<3
 .have a0:(0:Int)<=(a:Int):=Aa;have a3:(a:Int)<3:=Aa;have C:=zz M;clear M;go_wp2_with fail
  generalize wr=wq at*
  go_loopw[7,8] (fun sv si wr=>∃(Z:Nat) (AL:Option Addr) (cl:Nat),Z<=4/\si=.int .i64 (Z:Int)/\sv=.slice AL (Dq (Gz f) (fun s=>z (s*3+a)) Z).length cl/\wr.ownsRow (w.heap.size+1+1+1) 3 1 (.slice AL (Dq (Gz f) (fun s=>z (s*3+a)) Z).length cl) (Dq (Gz f) (fun s=>z (s*3+a)) Z).length (Ms.AQ (Dq (Gz f) (fun s=>z (s*3+a)) Z))/\Ae wr w.heap.size 37 (row 74 (Ab (Bv f z (PR a Z) a a) (.slice X Y.length V)))/\NK w w.heap.size X V Y wr) (fun _ si _=>4-(intOf si).toNat)
  .exact⟨0,none,0,Aa,rfl,rfl,World.ownsRow_nil _ _ _ _,G3.o,T.o⟩
  obtain⟨Z,AL,cl,vJ,rfl,rfl,G,rD,hd⟩:=hrel;clear G3 T;have G3:=zz rD;have T:=zz hd;have b:=zz G;have r9:=PK (Gz f) (fun s=>z (s*3+a)) Z;clear rD hd G
  by_cases rP:Z<4
  .have s0:(0:Int)<=(Z:Int):=Aa;have s4:(Z:Int)<4:=Aa;have rH:=zz rP
   have qQ:Z*3+a<12:=by have:=C.o;omega
   have vK:=zz qQ;have qX:=C.o
   have rF:=zz (show(row 74 (Ab (Bv f z (PR a Z) a a) (.slice X Y.length V)))[39+Z*3+a]?=some (.int .i64 (OB f (Z*3+a)))from by
    rw[Ah Aa]
    unfold Ab OB
    rw[Aj Aa,DZ _ _ _ _ _ _ Aa Aa Aa,Nat.add_assoc,←Dk HF.o (39+(Z*3+a)) Aa (by unfold Ar;simp;omega)])
   have sw:(row 74 (Ab (Bv f z (PR a Z) a a) (.slice X Y.length V)))[0]?=some (.int .i64 (k:Int)):=by rw[Ah Aa];unfold Ab;rw[Aj Aa,DZ _ _ _ _ _ _ Aa Aa Aa,rM.o]
   have sW:(row 74 (Ab (Bv f z (PR a Z) a a) (.slice X Y.length V)))[1]?=some (.int .i64 fr):=by rw[Ah Aa];unfold Ab;rw[Aj Aa,DZ _ _ _ _ _ _ Aa Aa Aa,tK.o]
   have u:(prog.info? 37).map (·.size)=some (row 74 (Ab (Bv f z (PR a Z) a a) (.slice X Y.length V))).size:=Eg
   have rW:=zz (show ∃v,(row 74 (Ab (Bv f z (PR a Z) a a) (.slice X Y.length V)))[55+Z*3+a]?=some (.int .i64 v)from by
    refine⟨iv (Bv f z (PR a Z) a a (55+Z*3+a)),?_⟩;rw[Ah Aa]
    unfold Ab
    rw[Aj Aa,←Dk (F9 HF.o z _ a a Aa Aa) (55+Z*3+a) Aa (by unfold Ar;simp;omega)])
   have tF:=zz (show((row 74 (Ab (Bv f z (PR a Z) a a) (.slice X Y.length V)))).setIfInBounds (55+Z*3+a) (.int .i64 (z (Z*3+a)))=row 74 (Ab (Bv f z (PR a (Z+1)) a a) (.slice X Y.length V))from by
    rw[Nat.add_assoc]
    exact PS f z _ _ a a Aa (Z*3+a) qQ rfl (fun x hx=>Y8 a Z qX x hx) _)
   have sG:=zz (show z (Z*3+a)=Fh k Z (OB f (Z*3+a)) (Z*3+a) (fun i=>Be (k:Int) fr 2 12 (i:Int) ms)from by rw[tO.o,show(Z*3+a)/3=Z by omega])
   have rA:=zz (fun(v:World) (hv:Below w.heap.size w v)=>show Calls prog 53 #[.agg (row 74 (Ab (Bv f z (PR a Z) a a) (.slice X Y.length V))),.slice AI ms.length ci,.int .i64 (Z:Int),.int .i64 (OB f (Z*3+a)),.int .i64 ((Z*3+a:Nat):Int),.int .i64 12] v fun e w'=>e=.returned (.int .i64 (z (Z*3+a)))/\Below v.heap.size v w' from by
    rw[sG.o]
    exact Tj _ u k hk fr sw sW Z rP (OB f (Z*3+a)) (Z*3+a) 12 qQ Aa AI ci ms B v (Nat.le_trans hB hv.size) uP (uZ.o v hv))
   have l:=zz (show((row 74 (Ab (Bv f z (PR a (Z+1)) a a) (.slice X Y.length V))))[27+Z]?=some (.bool (Gz f Z))from by rw[Ah Aa];unfold Ab;rw[Aj Aa,DZ _ _ _ _ _ _ Aa Aa Aa];exact congrArg some (Kb HF.o (27+Z) Aa Aa))
   have rV:=zz (show((row 74 (Ab (Bv f z (PR a (Z+1)) a a) (.slice X Y.length V))))[55+Z*3+a]?=some (.int .i64 (z (Z*3+a)))from by rw[Ah Aa];unfold Ab;rw[Aj Aa,Nat.add_assoc,UB _ _ _ _ _ Aa _ qQ (by rw[Y8 a Z qX _ qQ];simp)])
   have t:=zz (show Dq (Gz f) (fun s=>z (s*3+a)) (Z+1)=if Gz f Z then Dq (Gz f) (fun s=>z (s*3+a)) Z++[z (Z*3+a)]else Dq (Gz f) (fun s=>z (s*3+a)) Z from rfl)
   obtain⟨d,hd⟩:=AJ (OB f (Z*3+a));rw[hd]at rF sG rA;obtain⟨zj,um⟩:=AJ (z (Z*3+a));rw[um]at sG tF rA rV t;obtain⟨fl,qU⟩:=AJ (Dq (Gz f) (fun s=>z (s*3+a)) Z);rw[qU]at b t r9 ⊢;obtain⟨I,hI⟩:=AJ (Gz f Z);rw[hI]at l t;obtain⟨RN,tZ⟩:=AJ (row 74 (Ab (Bv f z (PR a Z) a a) (.slice X Y.length V)));rw[tZ]at G3 rF rW tF rA sw sW u;obtain⟨q3,uR⟩:∃q:Nat,3*Z=q:=⟨_,rfl⟩;obtain⟨q,hq⟩:∃q:Nat,Z*3+a=q:=⟨_,rfl⟩
   have vF:IntKind.i64.wrap (3*(Z:Int))=(q3:Int):=by rw[IntKind.wrap_i64];omega
   have vg:IntKind.i64.wrap ((q3:Int)+(a:Int))=(q:Int):=by rw[IntKind.wrap_i64];omega
   have vN:(Z:Nat)<=3:=Aa;rw[hq]at rA;clear qQ hd um tZ rP qU hI hq uR qX sw sW
   go_upto_region 11 with fail
   have G3:=zz G3.o.drew;have T:=zz T.o.drew;have b:=zz (ownsRow_below b.o (Below.refl _ _).drew);have rE:=And.intro G3.o ((G3.o.cell (39+Z*3+a)).trans rF.o);refine wp_region_noPanic ?_;refine A8 [2,10] (fun w'=>Ae w' w.heap.size 37 RN/\ w'.cell? ⟨w.heap.size,39+Z*3+a,none⟩=some (.int .i64 d)) Ap ?_
   generalize wr.drew=V0 at*
   refine Ac 0 ?_;refine Ac 1 ?_;refine Ba 2 (.agg RN) rE (hy:=?_) (h:=?_)
   . (intro w' R;exact Az 37 _ rfl _ rfl R.1 underlying37 rfl u)
   refine Ac 3 ?_;refine Ac 4 ?_;refine Ac 5 ?_;refine Ac 6 ?_;refine Ac 7 ?_;refine Ac 8 ?_;refine Ac 9 ?_;refine Ba 10 (.int .i64 d) rE (hy:=?_) (h:=?_)
   . (intro w' R;have y:=R.2;go_simp)
   refine Ac 11 ?_;refine Rg.tp 12 ⟨some 35,.binOp .mul 3 (.const (.int .i64 3)) (.tmp 34) 3,_,_,_,none⟩ (v:=.int .i64 (q3:Nat)) rfl ?_ ?_
   . (intro w;go_simp)
   refine Ac 13 ?_;refine Rg.tp 14 ⟨some 37,.binOp .add 3 (.tmp 35) (.tmp 36) 3,_,_,_,none⟩ (v:=.int .i64 (q:Nat)) rfl ?_ ?_
   . (intro w;go_simp)
   refine Ac 16 ?_;refine Ac 17 ?_;refine Aw 15 ?_;refine AX ?_ ?_
   . kernel_rfl
   intro K hK;rw[Ao Bb];go_simp
   go_at_call 53
   refine(rA.o V0 T.o.hb).mono ?_;rintro e V1 ⟨rfl,hb⟩;have T:=zz (T.o.step hb);have G3:=AU G3 hb;have b:=GJ b hb;clear hb rE;have rE:=trivial;obtain⟨vH,ul⟩:=rW.o;have uL:=(G3.o.cell (55+Z*3+a)).trans ul;have vB:=G3.o.thaw (55+Z*3+a);refine hK.o _ _ ?_;refine Ac 18 ?_;refine Aw 19 ?_;refine AX ?_ ?_
   . kernel_rfl
   intro K hK;go_simp;refine hK.o _ _ ?_;(try simp only[Rg.lp]);refine Bg Ap ?_ _;refine NoPanic.normal ?_;clear rE uL vB ul vF vg;have T:=zz (T.o.set (55+Z*3+a) (.int .i64 zj));have G3:=zz (G3.o.set (55+Z*3+a) (.int .i64 zj))
   have b:=zz (ownsRow_setCell_below (a:=⟨w.heap.size,55+Z*3+a,none⟩) b.o (by show w.heap.size<_;omega) (.int .i64 zj))
   rw[tF.o]at G3
   generalize(V1.setCell ⟨w.heap.size,55+Z*3+a,none⟩ (.int .i64 zj))=W6 at*
   have vL:=(G3.o.cell (27+Z)).trans l.o;have uL:=(G3.o.cell (55+Z*3+a)).trans rV.o
   cases I
   .have qZ:=zz (t.o.trans (Aj Bq));clear t l;go_wp2_with fail;exact⟨⟨Z+1,AL,cl,by have:=rH.o;omega,BG,by rw[qZ.o],by rw[qZ.o];exact b.o,G3.o,T.o⟩,by have:=rH.o;simp[intOf];omega⟩
   have qZ:=zz (t.o.trans (Ao rfl));clear t l;have vP:w.heap.size+1+1+1<=W6.heap.size:=T.o.g7.lt;have rJ:=zz (ownsRow_below b.o ((Below.refl W6.heap.size W6).alloc Nr (.cells (LB zj) 3)));have vC:=zz (T.o.step ((Below.refl W6.heap.size W6).alloc Nr (.cells (LB zj) 3)));have vk:=zz (G3.o.alloc (.cells (LB zj) 3));have O:=zz (Fc.Ff W6 (.int .i64 zj) 3)
   go_wp2_with(at_builtin;go_loud (refine Aq _ rfl (.tmp 47) (.tmp 54) 63 rfl (base:=w.heap.size+1+1+1) Ms.C8 rfl rJ.o rfl (fun h=>by cases h) O.o GR GX Aa Ec ?_);intro A9 c9 w5 vQ rq sP;have u6:=zz rq;have uO:=zz (vk.o.grown sP (fun e=>by have:=(rJ.o.lt _ e.symm).1;omega));have vo:=zz (vC.o.grown sP (aT rJ.o) (fun e he=>by have:=(rJ.o.lt _ he).1;omega));clear rq sP)
   exact⟨⟨Z+1,A9,c9,by have:=rH.o;omega,BG,by rw[qZ.o,List.length_append];rfl,by rw[qZ.o,List.length_append,show Ms.AQ (fl++[zj])=Ms.AQ fl++[.int .i64 zj]by simp[Ms.AQ]];exact u6.o,uO.o,vo.o⟩,by have:=rH.o;simp[intOf];omega⟩
  obtain rfl:Z=4:=Aa
  rw[show((4:Nat):Int)=4 from rfl]
  clear rP;have M:=C.o;have ve:=zz (Um (f:=f) sI.o a M)
  have su:=zz (fun v (hv:v.ownsRow (w.heap.size+1+1+1) 3 1 (.slice AL (Dq (Gz f) (fun s=>z (s*3+a)) 4).length cl) (Dq (Gz f) (fun s=>z (s*3+a)) 4).length (Ms.AQ (Dq (Gz f) (fun s=>z (s*3+a)) 4)))=>show Calls prog 54 #[.slice AL (Dq (Gz f) (fun s=>z (s*3+a)) 4).length cl] v fun e w'=>e=.returned (.tuple #[.int .i64 (Il f z a),.int .i64 (Nn (Dq (Gz f) (fun s=>z (s*3+a)) 4)).2])/\Below v.heap.size v w' from
   WX AL cl _ v.heap.size v Nr Aa (fun x hx=>by
    obtain⟨sj,vM,_,rfl⟩:=KT hx
    exact sI.o _ (by have:=C.o;omega)) (Rd.Bu hv))
  have rT:=zz (Tg f z (PR a 4) a a Aa M (.slice X Y.length V))
  have qW:=zz (show ∃v,(row 74 (Ab (Bv f z (PR a 4) a a) (.slice X Y.length V)))[67+a]?=some (.int .i64 v)from by
   refine⟨iv (Bv f z (PR a 4) a a (67+a)),?_⟩;rw[Ah Aa]
   unfold Ab
   rw[Aj Aa,←Dk (F9 HF.o z _ a a Aa Aa) (67+a) Aa (by unfold Ar;simp;omega)])
  have tT:=zz (show(row 7 fun j=>Ab (Bv f z (PR a 4) a (a+1)) (.slice X Y.length V) (6+a*7+j))=ME (Nh f a)from by
   rw[←YM HF.o a M]
   exact AA fun j hj=>by unfold Ab;rw[Aj Aa,Nat.add_assoc,Ze _ _ _ _ _ M _ hj])
  have uz:=zz (show(row 4 fun j=>Ab (Bv f z (PR a 4) a (a+1)) (.slice X Y.length V) (2+j))=Rq (iv (f 2)) (iv (f 3)) (iv (f 4)) (iv (f 5))from by
   have e:∀j,j<4->Ab (Bv f z (PR a 4) a (a+1)) (.slice X Y.length V) (2+j)=.int .i64 (iv (f (2+j))):=fun j hj=>by unfold Ab;rw[Aj Aa,DZ _ _ _ _ _ _ Aa Aa Aa];exact Dk HF.o (2+j) Aa (by unfold Ar;simp;omega)
   rw[AA (g:=fun j=>.int .i64 (iv (f (2+j)))) e]
   rfl)
  have rZ:=zz (show(row 74 (Ab (Bv f z (PR a 4) a (a+1)) (.slice X Y.length V)))[67+a]?=some (.int .i64 (Il f z a))from by rw[Ah Aa];unfold Ab;rw[Aj Aa,YR _ _ _ _ _ Aa _ Aa Aa])
  have rQ:=zz (fun v=>show Calls prog 55 #[.agg (ME (Nh f a)),.agg (Rq (iv (f 2)) (iv (f 3)) (iv (f 4)) (iv (f 5))),.int .i64 (Il f z a)] v fun e w'=>e=.returned (.tuple #[.agg (ME (JJ f z a)),.bool (KG (Nh f a) (iv (f 2)) (iv (f 3)) (iv (f 4)) (iv (f 5)) (Il f z a)).2])/\Below v.heap.size v w' from
   Ug (Nh f a) _ _ _ _ _ v (uY.o a M) (rR.o 2 Aa) (rR.o 3 Aa) (rR.o 4 Aa) (rR.o 5 Aa) ve.o)
  have vG:=zz (Tt f z (PR a 4) a (a+1) M (.slice X Y.length V));obtain⟨U,hU⟩:=AJ (Il f z a);rw[hU]at su rT rZ rQ;obtain⟨RA,qY⟩:=AJ (row 74 (Ab (Bv f z (PR a 4) a a) (.slice X Y.length V)));rw[qY]at G3 rT qW;obtain⟨TC,uw⟩:=AJ (Rq (iv (f 2)) (iv (f 3)) (iv (f 4)) (iv (f 5)));rw[uw]at uz rQ;obtain⟨SC,uE⟩:=AJ (ME (Nh f a));rw[uE]at tT rQ;clear hU qY M uw uE;have tJ:=zz (su.o wr b.o);obtain⟨fe,tY⟩:=AJ ((Nn (Dq (Gz f) (fun s=>z (s*3+a)) 4)).2);obtain⟨fl,qU⟩:=AJ ((Dq (Gz f) (fun s=>z (s*3+a)) 4).length);rw[tY,qU]at tJ;rw[qU];clear su tY qU b r9;go_wp2_with fail;refine tJ.o.mono ?_;rintro e w6 ⟨rfl,hb⟩;have G3:=AU G3 hb;have T:=zz (T.o.step hb);clear hb tJ;obtain⟨vS,uM⟩:=qW.o;have vD:=(G3.o.cell (67+a)).trans uM;have uS:=G3.o.thaw (67+a)
  go_upto_region 15 with fail
  have T:=zz (T.o.set (67+a) (.int .i64 U));have G3:=zz (G3.o.set (67+a) (.int .i64 U));rw[rT.o]at G3;clear vD uS uM qW rT
  generalize(w6.setCell ⟨w.heap.size,67+a,none⟩ (.int .i64 U))=w7 at*
  have G3:=zz G3.o.drew;have T:=zz T.o.drew;have O:=G3.o;refine wp_region_noPanic ?_;refine A8 [4,6,10] (fun w'=>Ae w' w.heap.size 37 (row 74 (Ab (Bv f z (PR a 4) a (a+1)) (.slice X Y.length V)))) Ap ?_
  generalize w7.drew=V0 at*
  refine Ac 0 ?_;refine Ac 1 ?_;refine Ac 2 ?_;refine Ac 3 ?_;refine Ba 4 (.agg SC) O (hy:=?_) (h:=?_)
  . (intro w' R;rw[←tT.o];exact BK 25 (.tmp 68) rfl w.heap.size (6+a*7) 7 rfl _ _ (Dx R (6+a*7) 7 (by have:=C.o;omega)) underlying25 rfl Ap)
  refine Ac 5 ?_;refine Ba 6 (.agg TC) O (hy:=?_) (h:=?_)
  . (intro w' R;rw[←uz.o];exact BK 23 (.tmp 70) rfl w.heap.size 2 4 rfl _ _ (Dx R 2 4 Aa) underlying23 rfl Ap)
  refine Ac 7 ?_;refine Ac 8 ?_;refine Ac 9 ?_;refine Ba 10 (.int .i64 U) O (hy:=?_) (h:=?_)
  . (intro w' R;have y:=(R.cell (67+a)).trans rZ.o;go_simp)
  refine Ac 15 ?_;refine Aw 11 ?_;refine AX ?_ ?_
  . kernel_rfl
  intro K hK;rw[Ao Bb];go_simp
  go_at_call 55
  refine(rQ.o _).mono ?_;rintro e V1 ⟨rfl,hb⟩;have G3:=AU G3 hb;have T:=zz (T.o.step hb);clear hb O;have O:=trivial;go_wp2_with fail;refine hK.o _ _ ?_;refine Ac 12 ?_;refine Ac 13 ?_;refine Ac 14 ?_;refine Ac 16 ?_;refine Aw 17 ?_;refine AX ?_ ?_
  . kernel_rfl
  intro K hK;rw[Ao Bb];refine wp_store_mid 25 (.tmp 80) (.tmp 77) rfl w.heap.size (6+a*7) (ME (JJ f z a)) rfl rfl (by rw[Jk,Ag];exact Cg G3.o (6+a*7) 7 (by have:=C.o;omega)) (by rw[Jk,Ag];kernel_rfl) (by rw[Jk];exact row_one (Ra _)) ?_;have G3:=zz (DI G3.o (6+a*7) 7 (Ky (JJ f z a)));rw[vG.o,←Jk]at G3;have T:=zz (T.o.sets (ME (JJ f z a)).toList (6+a*7))
  generalize(V1.setCells w.heap.size (6+a*7) (ME (JJ f z a)).toList)=V2 at*
  refine hK.o _ _ ?_;(try simp only[Rg.lp]);refine Bg Ap ?_ _;refine NoPanic.normal ?_;go_wp2_with fail;exact⟨⟨a+1,by have:=C.o;omega,BG,by rw[←Xt f z (PR a 4) (PR (a+1) 0) (a+1) (a+1) (fun x hx=>lU a x hx)];exact G3.o,T.o⟩,by have:=C.o;simp[intOf];omega⟩
 obtain rfl:a=3:=Aa
 rw[show((3:Nat):Int)=3 from rfl]
 have G3:=zz (show Ae wr w.heap.size 37 (row 74 (Ab (Bv f z Dp 3 3) (.slice X Y.length V)))from by rw[←Xt f z (PR 3 0) Dp 3 3 (fun x hx=>nT x hx)];exact G3.o)
 clear M
 have rG:=zz (fun v=>show Calls prog 56 #[.agg (row 74 (Ab (Bv f z Dp 3 3) (.slice X Y.length V)))] v fun e w'=>e=.returned (.int .i64 (EF (Bv f z Dp 3 3)))/\Below v.heap.size v w' from Rv (Bv f z Dp 3 3) (F9 HF.o z Dp 3 3 Aa Aa) (.slice X Y.length V) v)
 have p:=zz (VI k hk z f (.slice X Y.length V))
 have HN:=zz (show ∀i,i<73->∃v,(row 74 (Ab (Bv f z Dp 3 3) (.slice X Y.length V)))[i]?=some v from fun i hi=>⟨_,Ah Aa⟩)
 have sJ:=zz (show(row 74 (Ab (Bv f z Dp 3 3) (.slice X Y.length V)))[0]?=some (.int .i64 (k:Int))from by rw[Ah Aa];unfold Ab;rw[Aj Aa,DZ _ _ _ _ _ _ Aa Aa Aa,rM.o])
 have qV:=zz (show ∃v,(row 74 (Ab (Bv f z Dp 3 3) (.slice X Y.length V)))[51+k]?=some (.int .i64 v)from by
  refine⟨iv (Bv f z Dp 3 3 (51+k)),?_⟩;rw[Ah Aa]
  unfold Ab
  rw[Aj Aa,←Dk (F9 HF.o z _ 3 3 Aa Aa) (51+k) Aa (by unfold Ar;simp;omega)])
 have rC:=zz (show ∃v,(row 74 (Ab (Bv f z Dp 3 3) (.slice X Y.length V)))[70]?=some (.int .i64 v)from by
  refine⟨iv (Bv f z Dp 3 3 70),?_⟩;rw[Ah Aa]
  unfold Ab
  rw[Aj Aa,←Dk (F9 HF.o z _ 3 3 Aa Aa) 70 Aa (by unfold Ar;simp)])
 have u:(prog.info? 37).map (·.size)=some (row 74 (Ab (Bv f z Dp 3 3) (.slice X Y.length V))).size:=Eg;have k4:(k:Int)<4:=Aa;obtain⟨dg,sH⟩:=AJ (EF (Bv f z Dp 3 3));have sU:=zz sH;rw[sH]at rG p;obtain⟨RA,qY⟩:=AJ (row 74 (Ab (Bv f z Dp 3 3) (.slice X Y.length V)));rw[qY]at G3 rG p HN sJ qV rC u;clear qY sH
 go_wp2_with(refine Ad rfl 37 _ rfl w.heap.size rfl G3.o _ underlying37 rfl u ?_)
 refine(rG.o _).mono ?_;rintro e w6 ⟨rfl,hb⟩;have G3:=AU G3 hb;have T:=zz (T.o.step hb);clear hb rG;obtain⟨vR,tu⟩:=rC.o;have tH:=(G3.o.cell 70).trans tu;have vw:=G3.o.thaw 70
 go_upto_region 17 with fail
 have T:=zz (T.o.set 70 (.int .i64 dg));have G3:=zz (G3.o.set 70 (.int .i64 dg));clear tH vw
 generalize(w6.setCell ⟨w.heap.size,70,none⟩ (.int .i64 dg))=w7 at*
 have tH: w7.cell? ⟨w.heap.size,70,none⟩=some (.int .i64 dg):=by rw[G3.o.cell,Array.getElem?_setIfInBounds_self_of_lt (Array.getElem?_eq_some_iff.1 tu).1]
 have x0: w7.cell? ⟨w.heap.size,0,none⟩=some (.int .i64 (k:Int)):=by rw[G3.o.cell,Array.getElem?_setIfInBounds_ne Aa];exact sJ.o
 obtain⟨uX,uN⟩:=qV.o
 have uU: w7.cell? ⟨w.heap.size,51+k,none⟩=some (.int .i64 uX):=by rw[G3.o.cell,Array.getElem?_setIfInBounds_ne Aa];exact uN
 have uW:=G3.o.thaw (51+k)
 go_upto_region 18 with fail
 have T:=zz (T.o.set (51+k) (.int .i64 dg));have G3:=zz (G3.o.set (51+k) (.int .i64 dg));rw[p.o]at G3;clear tH x0 uU uW uN tu HN sJ qV rC p u
 generalize(w7.setCell ⟨w.heap.size,51+k,none⟩ (.int .i64 dg))=w8 at*
 obtain⟨F,hF⟩:=AJ (Kv k z f);have uq:=zz hF
 have uT:=zz (show ∀i,i<73->C9 (Ar i) (F i)from by rw[←hF];exact Po HF.o k hk z)
 have uD:F 0=.int .i64 (k:Int):=by rw[←hF];unfold Kv;rw[Aj Aa,DZ _ _ _ _ _ _ Aa Aa Aa];exact rM.o
 have tV:F 1=.int .i64 fr:=by rw[←hF];unfold Kv;rw[Aj Aa,DZ _ _ _ _ _ _ Aa Aa Aa];exact tK.o
 have rU:F 70=.int .i64 dg:=by rw[←hF];unfold Kv;rw[Ao (.inl rfl),sU.o]
 rw[hF]at G3;clear hF;have o5:=Cv uT.o (A:=X) (n:=Y.length) (c:=V);have i5:(prog.info? 37).map (·.size)=some (row 74 (Ab F (.slice X Y.length V))).size:=Eg;have z5:(zeroCells37).size=(row 74 (Ab F (.slice X Y.length V))).size:=Eg
 have j0:(row 74 (Ab F (.slice X Y.length V)))[0]?=some (.int .i64 (k:Int)):=by rw[Ah Aa];exact congrArg some uD
 have j1:(row 74 (Ab F (.slice X Y.length V)))[1]?=some (.int .i64 fr):=by rw[Ah Aa];exact congrArg some tV
 have uF:=zz (show(row 74 (Ab F (.slice X Y.length V)))[70]?=some (.int .i64 dg)from by rw[Ah Aa];exact congrArg some rU)
 obtain⟨E,sQ⟩:=AJ (row 74 (Ab F (.slice X Y.length V)));rw[sQ]at o5 i5 z5 j0 j1 G3 uF;have tX:=zz sQ;clear sQ uD tV rU;have G3:=zz G3.o.drew;have G6:=zz T.o.g6.drew;have L:=zz T.o.g7.drew;have H:=zz T.o.drew.hv;have J:=zz T.o.hb.drew
 have vI:=zz (show w.heap.size+1+1<w8.drew.heap.size from L.o.lt)
 have J0:=zz j0;have J1:=zz j1;have O:=G3.o;clear T;refine wp_region_noPanic ?_;refine A8 [0,2,4,6] (fun w'=>Ae w' w.heap.size 37 E) Ap ?_
 generalize w8.drew=V0 at*
 refine Ba 0 (.agg E) O (hy:=?_) (h:=?_)
 . (intro w' R;exact Az 37 _ rfl _ rfl R underlying37 rfl i5)
 refine Ac 1 ?_;refine Ba 2 (.int .i64 (k:Int)) O (hy:=?_) (h:=?_)
 . (intro w' R;have y:=(R.cell 0).trans J0.o;go_simp)
 refine Ac 3 ?_;refine Ba 4 (.int .i64 fr) O (hy:=?_) (h:=?_)
 . (intro w' R;have y:=(R.cell 1).trans J1.o;go_simp)
 refine Ac 5 ?_;refine Ba 6 (.int .i64 dg) O (hy:=?_) (h:=?_)
 . (intro w' R;have y:=(R.cell 70).trans uF.o;go_simp)
 (try simp only[Rg.lp]);refine XY (i:=7) (j:=9) (oi:=⟨some 97,.buildSlice 63 1 #[(0,.tmp 96)],_,_,_,none⟩) (oj:=⟨none,.store 37 (.tmp 4) (.tmp 90),_,_,_,none⟩) Ap rfl rfl ?_ ?_
 .refine Bt ?_;intro K hK;go_simp;have HP:=zz (Ae.fresh V0 3 (LB dg))
  have D:=zz (show w.heap.size+1+1<V0.heap.size from L.o.lt)
  have G3:=zz (G3.o.alloc (.cells (LB dg) 3));have G6:=zz (G6.o.alloc (.cells (LB dg) 3));have L:=zz (L.o.alloc (.cells (LB dg) 3));have H:=zz (ownsRow_below H.o ((Below.refl V0.heap.size V0).alloc Nr (.cells (LB dg) 3)));have J:=zz (J.o.alloc J.o.size (.cells (LB dg) 3));clear O
  generalize(V0.alloc (.cells (LB dg) 3))=V1 at*
  have O:=G3.o;obtain⟨N,ru⟩:=AJ (V0.heap.size);rw[ru]at HP D ⊢;clear ru;refine hK.o _ _ O ?_;(try simp only[Rg.lp]);refine Rg.tp 8 ⟨some 98,.build 65 #[(0,.const (.int .i64 3)),(1,.tmp 92),(2,.tmp 94),(3,.tmp 97)],_,_,_,none⟩ (v:=.agg (BL 3 (k:Int) fr (some ⟨N,0,none⟩) 1 1)) rfl ?_ ?_
  . (intro w;go_simp)
  refine Aw 9 ?_;refine Bt ?_;intro K hK;rw[Ao Bb];refine wp_store_row 37 _ _ rfl (w.heap.size+1) E rfl rfl 37 _ G6.o i5 z5 o5 ?_;have G3:=zz (G3.o.setRow_other (g':=w.heap.size+1) Aa E);have L:=zz (L.o.setRow_other (g':=w.heap.size+1) Aa E);have HP:=zz (HP.o.setRow_other (g':=w.heap.size+1) (by have:=D.o;omega) E);have G6:=zz (G6.o.setRow E)
  have J:=zz (below_setRow J.o (show w.heap.size<=w.heap.size+1 by omega) E)
  have H:=zz (Ay H.o (show w.heap.size+1<w.heap.size+1+1+1 by omega) E)
  clear O
  generalize(V1.setRow (w.heap.size+1) E)=V2 at*
  have O:=G3.o;refine hK.o _ _ O ?_;refine Aw 10 ?_;refine AX ?_ ?_
  . kernel_rfl
  intro K hK;rw[Ao Bb];refine wp_store_row 65 _ _ rfl (w.heap.size+1+1) (Ms.AR 3 (k:Int) fr (some ⟨N,0,none⟩) 1 1) rfl rfl 65 _ L.o Ap rfl (by simp[Ms.AR,Value.oneCell']) ?_;have G6:=zz (G6.o.setRow_other (g':=w.heap.size+1+1) Aa (Ms.AR 3 (k:Int) fr (some ⟨N,0,none⟩) 1 1));have HP:=zz (HP.o.setRow_other (g':=w.heap.size+1+1) (by have:=D.o;omega) (Ms.AR 3 (k:Int) fr (some ⟨N,0,none⟩) 1 1));have L:=zz (L.o.setRow (Ms.AR 3 (k:Int) fr (some ⟨N,0,none⟩) 1 1))
  have J:=zz (below_setRow J.o (show w.heap.size<=w.heap.size+1+1 by omega) (Ms.AR 3 (k:Int) fr (some ⟨N,0,none⟩) 1 1))
  have H:=zz (Ay H.o (show w.heap.size+1+1<w.heap.size+1+1+1 by omega) (Ms.AR 3 (k:Int) fr (some ⟨N,0,none⟩) 1 1))
  generalize(V2.setRow (w.heap.size+1+1) (Ms.AR 3 (k:Int) fr (some ⟨N,0,none⟩) 1 1))=V4 at*
  refine hK.o _ _ ?_;(try simp only[Rg.lp]);refine Bg Ap ?_ _;refine NoPanic.normal ?_;clear O;go_wp2_with fail;have sK:(prog.info? 65).map (·.size)=some (Ms.AR 3 (k:Int) fr (some ⟨N,0,none⟩) 1 1).size:=Ap
  have tC:=zz ((Mj.DU HP.o).more (show N+1<=V4.heap.size from HP.o.lt))
  exact Da rfl rfl rfl G6.o ⟨by rw[underlying37],i5⟩ L.o ⟨by rw[underlying65],sK⟩ rfl (by rw[tQ.o,uq.o,sU.o];exact⟨X,V,some ⟨N,0,none⟩,1,by rw[←tX.o];rfl,Rd.Bu H.o,tC.o,J.o,fun a h=>Nat.le_trans Aa (Db H.o a h),fun a h=>by cases h;show w.heap.size<=N;have:=D.o;omega,(BU H.o).1,(BU H.o).2⟩)
 refine Bt ?_;intro K hK;rw[Ao Bb];refine wp_store_row 37 _ _ rfl (w.heap.size+1) E rfl rfl 37 _ G6.o i5 z5 o5 ?_;have G3:=zz (G3.o.setRow_other (g':=w.heap.size+1) Aa E);have L:=zz (L.o.setRow_other (g':=w.heap.size+1) Aa E);have G6:=zz (G6.o.setRow E)
 have J:=zz (below_setRow J.o (show w.heap.size<=w.heap.size+1 by omega) E)
 have H:=zz (Ay H.o (show w.heap.size+1<w.heap.size+1+1+1 by omega) E)
 clear O
 generalize(V0.setRow (w.heap.size+1) E)=V1 at*
 have O:=G3.o;refine hK.o _ _ O ?_;refine Aw 7 ?_;refine Bt ?_;intro K hK;go_simp;have HP:=zz (Ae.fresh V1 3 (LB dg))
 have D:=zz (show w.heap.size+1+1<V1.heap.size from L.o.lt)
 have G3:=zz (G3.o.alloc (.cells (LB dg) 3));have G6:=zz (G6.o.alloc (.cells (LB dg) 3));have L:=zz (L.o.alloc (.cells (LB dg) 3));have H:=zz (ownsRow_below H.o ((Below.refl V1.heap.size V1).alloc Nr (.cells (LB dg) 3)));have J:=zz (J.o.alloc J.o.size (.cells (LB dg) 3));clear O
 generalize(V1.alloc (.cells (LB dg) 3))=V2 at*
 have O:=G3.o;obtain⟨N,ru⟩:=AJ (V1.heap.size);rw[ru]at HP D ⊢;clear ru;refine hK.o _ _ O ?_;(try simp only[Rg.lp]);refine Rg.tp 8 ⟨some 98,.build 65 #[(0,.const (.int .i64 3)),(1,.tmp 92),(2,.tmp 94),(3,.tmp 97)],_,_,_,none⟩ (v:=.agg (BL 3 (k:Int) fr (some ⟨N,0,none⟩) 1 1)) rfl ?_ ?_
 . (intro w;go_simp)
 refine Aw 10 ?_;refine AX ?_ ?_
 . kernel_rfl
 intro K hK;rw[Ao Bb];refine wp_store_row 65 _ _ rfl (w.heap.size+1+1) (Ms.AR 3 (k:Int) fr (some ⟨N,0,none⟩) 1 1) rfl rfl 65 _ L.o Ap rfl (by simp[Ms.AR,Value.oneCell']) ?_;have G6:=zz (G6.o.setRow_other (g':=w.heap.size+1+1) Aa (Ms.AR 3 (k:Int) fr (some ⟨N,0,none⟩) 1 1));have HP:=zz (HP.o.setRow_other (g':=w.heap.size+1+1) (by have:=D.o;omega) (Ms.AR 3 (k:Int) fr (some ⟨N,0,none⟩) 1 1));have L:=zz (L.o.setRow (Ms.AR 3 (k:Int) fr (some ⟨N,0,none⟩) 1 1))
 have J:=zz (below_setRow J.o (show w.heap.size<=w.heap.size+1+1 by omega) (Ms.AR 3 (k:Int) fr (some ⟨N,0,none⟩) 1 1))
 have H:=zz (Ay H.o (show w.heap.size+1+1<w.heap.size+1+1+1 by omega) (Ms.AR 3 (k:Int) fr (some ⟨N,0,none⟩) 1 1))
 generalize(V2.setRow (w.heap.size+1+1) (Ms.AR 3 (k:Int) fr (some ⟨N,0,none⟩) 1 1))=V4 at*
 refine hK.o _ _ ?_;(try simp only[Rg.lp]);refine Bg Ap ?_ _;refine NoPanic.normal ?_;clear O;go_wp2_with fail;have sK:(prog.info? 65).map (·.size)=some (Ms.AR 3 (k:Int) fr (some ⟨N,0,none⟩) 1 1).size:=Ap
 have tC:=zz ((Mj.DU HP.o).more (show N+1<=V4.heap.size from HP.o.lt))
 exact Da rfl rfl rfl G6.o ⟨by rw[underlying37],i5⟩ L.o ⟨by rw[underlying65],sK⟩ rfl (by rw[tQ.o,uq.o,sU.o];exact⟨X,V,some ⟨N,0,none⟩,1,by rw[←tX.o];rfl,Rd.Bu H.o,tC.o,J.o,fun a h=>Nat.le_trans Aa (Db H.o a h),fun a h=>by cases h;show w.heap.size<=N;have:=D.o;omega,(BU H.o).1,(BU H.o).2⟩)
end Nd
end Go.Proofs.YtjobajeggllmiaaGreat
