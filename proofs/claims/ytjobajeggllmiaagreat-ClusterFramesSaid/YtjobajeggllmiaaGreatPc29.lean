import Derived.Test.YtjobajeggllmiaaGreatPc0
import Derived.Test.YtjobajeggllmiaaGreatPc28
set_option linter.all false
set_option maxHeartbeats 100000000
set_option maxRecDepth 100000
namespace Go.Proofs.YtjobajeggllmiaaGreat
open Ms Rg _root_.Go.Proofs.Tryz
namespace Nd
open Go.RowKit Mem Rws Flat BigW
def Kn(f:Nat->Value)(hf:∀i,i<73->C9 (Ar i) (f i))(k:Nat)(hk:k<4)(uL:f 0=.int .i64 (k:Int))(fr:Int)(ug:f 1=.int .i64 fr)(A:Option Addr)(c:Nat)(Y:List Bool)(AI:Option Addr)(ci:Nat)(r:List Cw)(B:Nat)(w:World)(hB:B<=w.heap.size)(hA:A=none->c=0)(uY:Y.length<=c)(hl:Y.length<=140737488351232)(hr:Rd w B 1 A Y.length (Au Y))(uW:r.length<=140737488355328)(hm:Cc w B AI r)(hw:∀i z,i<73->f i=.int .i64 z->Wf z)(tQ:∀m∈r,∀z∈m.zs,Wf z):
  Calls prog 18 #[.agg (row 74 (Ab f (.slice A Y.length c))),.slice AI r.length ci] w fun e w'=>Ej w w' (Kv k (GD k fr r f) f) Y 3 (k:Int) fr [EF (Bv f (GD k fr r f) Dp 3 3)] e:=by
 have rU:∀(A:Option Addr) (n c:Nat),(row 74 (Ab f (.slice A n c))).all (·.oneCell')=true:=fun A n c=>Cv hf;have rZ:=zz (Ot hf hw tQ k fr);have vC:=zz (fun a (ha:a<3)=>iO hf hw a ha);have rM:=zz (fun i (hi:2<=i/\i<6)=>jJ hf hw i hi);clear hw tQ;have HO:=zz rU;have HF:=zz hf;have rG:=zz uL;have uU:=zz ug;clear hf rU uL ug
 go_in
 go_upto_region 1 with fail
 have D3:Hid (Ae (((w.alloc (.cells (row 74 (Ab f (.slice A Y.length c))) 37)).alloc (.cells zeroCells37 37)).alloc (.cells QV 65)) w.heap.size 37 (row 74 (Ab f (.slice A Y.length c)))):=zz (((Ae.new rfl).alloc _).alloc _);have D6:Hid (Ae (((w.alloc (.cells (row 74 (Ab f (.slice A Y.length c))) 37)).alloc (.cells zeroCells37 37)).alloc (.cells QV 65)) (w.heap.size+1) 37 zeroCells37):=zz ((Ae.new Bq).alloc _);have D7:Hid (Ae (((w.alloc (.cells (row 74 (Ab f (.slice A Y.length c))) 37)).alloc (.cells zeroCells37 37)).alloc (.cells QV 65)) (w.heap.size+1+1) 65 QV):=zz (Ae.new Bq);have G:=zz (((((Below.refl w.heap.size w).alloc Nr (.cells (row 74 (Ab f (.slice A Y.length c))) 37)).alloc Bq (.cells zeroCells37 37)).alloc Ec (.cells QV 65)));have HR:=zz hr;have vL:=zz hm;clear hr hm
 generalize(((w.alloc (.cells (row 74 (Ab f (.slice A Y.length c))) 37)).alloc (.cells zeroCells37 37)).alloc (.cells QV 65))=W at*
 have rV:∀A (n:Nat) c,(prog.info? 37).map (·.size)=some (row 74 (Ab f (.slice A n c))).size:=fun A n c=>by rw[Ag];kernel_rfl
 have HI:=zz rV;clear rV;have vT:w.heap.size+1+1<W.heap.size:=D7.o.lt;have uK:=HI.o A Y.length c;obtain⟨R1,sG⟩:=AJ (row 74 (Ab f (.slice A Y.length c)));have rX:=zz sG;rw[sG]at D3 uK;clear sG
 go_wp2_with(refine Ad rfl 37 _ rfl w.heap.size rfl D3.o _ underlying37 rfl uK ?_)
 rw[←rX.o];refine(Ho f HF.o A c Y B _ (Nat.le_trans hB G.o.size) hA uY hl (HR.o.below (G.o.mono hB))).mono ?_;rintro e w1 ⟨X,V,rfl,rQ,qU⟩;rw[rX.o];have uJ:=zz rQ;have uf:=CU G qU;have vI:=qU.size;have ru:=HI.o X Y.length V;have sH:=HO.o X Y.length V
 have qZ:(row 74 (Ab f (.slice X Y.length V)))[0]?=some (.int .i64 (k:Int)):=by rw[Ah Aa];exact congrArg some rG.o
 have sW:(row 74 (Ab f (.slice X Y.length V)))[1]?=some (.int .i64 fr):=by rw[Ah Aa];exact congrArg some uU.o
 have sN:R1.size=(row 74 (Ab f (.slice X Y.length V))).size:=by rw[←rX.o,Ag,Ag]
 obtain⟨R2,sI⟩:=AJ (row 74 (Ab f (.slice X Y.length V)));have uq:=zz sI;rw[sI]at ru sH qZ sW sN ⊢;clear sI;have E3:=AU D3 qU;have F3:=zz (E3.o.setRow R2);have F6:=zz ((D6.o.below qU D6.o.lt).setRow_other (g':=w.heap.size) Aa R2);have F7:=zz ((D7.o.below qU D7.o.lt).setRow_other (g':=w.heap.size) Aa R2);have uz:=zz (below_setRow uf.o Nr R2)
 have tT:=zz (Ay uJ.o (show w.heap.size<W.heap.size by omega) R2)
 have cT:=fun w=>Gu R2 (k:Int) qZ w;have vP:¬((k:Int)<0):=Aa
 have uO:Dt (k:Int)=false:=by unfold Dt;simp;omega
 rw[uO]at cT;clear qU rQ uO
 go_upto_region 4 with(first
  |(refine wpList_store_row rfl 37 _ _ rfl w.heap.size R2 rfl rfl 37 _ E3.o ru sN sH ?_)
  |(refine Ad rfl 37 _ rfl w.heap.size rfl F3.o _ underlying37 rfl ru ?_)
  |(go_at_call 37;refine(cT _).mono ?_;rintro e w3 ⟨rfl,D⟩;have G3:=AU F3 D;have G6:=AU F6 D;have I:=AU F7 D;have rC:=CU uz D;have uj:=GJ tT D;have vw:=Nat.le_trans vI (Nat.le_trans (show w1.heap.size<=(w1.setRow w.heap.size R2).heap.size from(below_setRow (Below.refl 0 w1) (Nat.zero_le _) R2).size) D.size);clear D))
 clear G uf uz uJ tT D3 D6 D7 E3 F3 F6 F7 cT sN;have cH:=La R2 (k:Int) fr qZ sW AI ci r 2 12 Aa B w3 (Nat.le_trans hB rC.o.size) uW (vL.o.below (rC.o.mono hB))
 rw[show((12:Nat):Int)=12 from rfl]at cH
 have CH:=zz cH;clear cH
 go_wp2_with(refine Ad rfl 37 _ rfl w.heap.size rfl G3.o _ underlying37 rfl ru ?_)
 refine CH.o.mono ?_;rintro e w4 ⟨s,rfl,hs,hb⟩;have o4:(row 4 s).all (·.oneCell')=true:=row_one fun i hi=>(hs i hi).one;have i4:(prog.info? 88).map (·.size)=some (row 4 s).size:=Eg
 have z4:(VS:Array Value).size=(row 4 s).size:=by rw[Ag];rfl
 have tJ:Hid (NK w w.heap.size X V Y w3):=zz ⟨rC.o,G6.o,I.o,Bf uj.o Aa⟩;have O:=zz (tJ.o.step hb);have G3:=AU G3 hb
 have uE:=zz (fun i hi=>(hs i hi).keep (fun n xs h=>Bf h (show w.heap.size+1+1+1<=w3.heap.size from I.o.lt)))
 have sZ:=zz (show w.heap.size+1+1+1<=w4.heap.size from Nat.le_trans I.o.lt hb.size)
 rw[←uq.o]at G3;clear hs hb uj rC CH sH ru HR vw tJ G6 I;obtain⟨R4,tu⟩:=AJ (row 4 s);rw[tu]at o4 i4 z4 ⊢;have vJ:=zz tu;clear tu;have sU:=zz (Ae.fresh w4 88 VS)
 go_upto_region 5 with(refine wpList_store_row rfl 88 _ _ rfl w4.heap.size R4 rfl rfl 88 _ sU.o i4 z4 o4 ?_)
 have HH:=zz (sU.o.setRow R4);have rF:Below w4.heap.size w4 ((w4.alloc (.cells VS 88)).setRow w4.heap.size R4):=below_setRow (DC) Nr R4;have G3:=AU G3 rF;have O:=zz (O.o.step rF);have M:=zz (fun i hi=>(uE.o i hi).below rF);clear rF uE sU
 generalize((w4.alloc (.cells VS 88)).setRow w4.heap.size R4)=w5 at*
 obtain⟨gh,tF⟩:=AJ (w4.heap.size);rw[tF]at HH sZ ⊢;clear tF;have N:Hid (DK w w.heap.size X V Y (fun i:Nat=>Be (k:Int) fr 2 12 (i:Int) r) s gh R4 w5):=zz ⟨O.o,HH.o,fun i hi=>M.o i hi⟩;have rO:=zz (fun(i:Nat) m (h:Be (k:Int) fr 2 12 (i:Int) r=some m)=>IE h)
 have rD:=zz (fun j:Nat=>show GD k fr r f j=Fh k (j/3) (OB f j) j (fun i=>Be (k:Int) fr 2 12 (i:Int) r)from rfl)
 clear O HH M;obtain⟨z,hz⟩:=AJ (GD k fr r f);have uX:=zz hz;rw[hz]at rZ rD;clear hz;obtain⟨o,ho⟩:=AJ (fun i:Nat=>Be (k:Int) fr 2 12 (i:Int) r);rw[ho]at N rD
 have rO:=zz (fun(i:Nat) m (h:o i=some m)=>show m.zs.length=12 from rO.o i m (by rw[←ho]at h;exact h))
 clear ho
 have G3:=zz (show Ae w5 w.heap.size 37 (row 74 (Ab (Bv f z (fun x=>decide (x<0*3)) 0 0) (.slice X Y.length V)))from by rw[QR f z _ (fun j hj=>by simp)];exact G3.o)
 have ve:(row 74 (Ab f (.slice X Y.length V)))[0]?=some (.int .i64 (k:Int)):=by rw[uq.o];exact qZ
 clear qZ sW ve;go_wp2_with fail
 go_loopw[20] (fun iv wr=>∃Z:Nat,Z<=4/\iv=.int .i64 (Z:Int)/\Ae wr w.heap.size 37 (row 74 (Ab (Bv f z (fun x=>decide (x<Z*3)) 0 0) (.slice X Y.length V)))/\DK w w.heap.size X V Y o s gh R4 wr) (fun iv _=>4-(intOf iv).toNat)
 .exact⟨0,Aa,rfl,G3.o,N.o⟩
 obtain⟨Z,vO,rfl,J,hd⟩:=hrel;clear G3 N;have G3:=zz J;have N:=zz hd;clear J hd
 by_cases sP:Z<4
 .have s0:(0:Int)<=(Z:Int):=Aa;have s4:(Z:Int)<4:=Aa;have qY:=zz sP;clear sP;go_wp2_with fail
  generalize wr=wq at*
  go_loopw[23] (fun iv wr=>∃a:Nat,a<=3/\iv=.int .i64 (a:Int)/\Ae wr w.heap.size 37 (row 74 (Ab (Bv f z (fun x=>decide (x<Z*3+a)) 0 0) (.slice X Y.length V)))/\DK w w.heap.size X V Y o s gh R4 wr) (fun iv _=>3-(intOf iv).toNat)
  .exact⟨0,Aa,rfl,G3.o,N.o⟩
  obtain⟨a,ha,rfl,J,hd⟩:=hrel;clear G3 N;have G3:=zz J;have N:=zz hd;clear J hd
  by_cases R:a<3
  .have a0:(0:Int)<=(a:Int):=Aa;have a3:(a:Int)<3:=Aa;have L:=zz R
   have su:Z*3+a<12:=by have:=qY.o;omega
   have vD:=zz su
   have uM:(row 74 (Ab (Bv f z (fun x=>decide (x<Z*3+a)) 0 0) (.slice X Y.length V)))[39+Z*3+a]?=some (.int .i64 (OB f (Z*3+a))):=by
    rw[Ah Aa]
    unfold Ab OB
    rw[Aj Aa,DZ _ _ _ _ _ _ Aa Aa Aa,Nat.add_assoc,←Dk HF.o (39+(Z*3+a)) Aa (by unfold Ar;simp;omega)]
   have t:=zz uM
   have b:=zz (show(row 74 (Ab (Bv f z (fun x=>decide (x<Z*3+a)) 0 0) (.slice X Y.length V)))[0]?=some (.int .i64 (k:Int))from by rw[Ah Aa];unfold Ab;rw[Aj Aa,DZ _ _ _ _ _ _ Aa Aa Aa,rG.o])
   have rT:=zz (show ∃v,(row 74 (Ab (Bv f z (fun x=>decide (x<Z*3+a)) 0 0) (.slice X Y.length V)))[55+Z*3+a]?=some (.int .i64 v)from by
    refine⟨iv (Bv f z (fun x=>decide (x<Z*3+a)) 0 0 (55+Z*3+a)),?_⟩;rw[Ah Aa]
    unfold Ab
    rw[Aj Aa,←Dk (F9 HF.o z _ 0 0 Aa Aa) (55+Z*3+a) Aa (by unfold Ar;simp;omega)])
   have rH:=zz (fun(v:Int) (hv:v=z (Z*3+a))=>show((row 74 (Ab (Bv f z (fun x=>decide (x<Z*3+a)) 0 0) (.slice X Y.length V)))).setIfInBounds (55+Z*3+a) (.int .i64 v)=row 74 (Ab (Bv f z (fun x=>decide (x<Z*3+(a+1))) 0 0) (.slice X Y.length V))from by
    rw[Nat.add_assoc]
    exact PS f z _ _ 0 0 Aa (Z*3+a) su hv (fun x hx=>by rw[Bool.eq_iff_iff];simp;omega) _)
   have l:=zz (show z (Z*3+a)=Fh k Z (OB f (Z*3+a)) (Z*3+a) o from by rw[rD.o,show(Z*3+a)/3=Z by omega])
   obtain⟨d,hd⟩:=AJ (OB f (Z*3+a));rw[hd]at t l;obtain⟨zj,uh⟩:=AJ (z (Z*3+a));rw[uh]at l rH;obtain⟨RN,tO⟩:=AJ (row 74 (Ab (Bv f z (fun x=>decide (x<Z*3+a)) 0 0) (.slice X Y.length V)));rw[tO]at G3 t b rT rH;clear su hd uh tO uM R
   go_upto_region 11 with fail
   have G3:=zz G3.o.drew;have N:=zz N.o.drew;have uP:=(G3.o.cell (39+Z*3+a)).trans t.o;refine wp_region_noPanic ?_;refine A8 [7] (fun w'=> w'.cell? ⟨w.heap.size,39+Z*3+a,none⟩=some (.int .i64 d)) Ap ?_
   generalize wr.drew=V0 at*
   obtain⟨vN,sM⟩:=rT.o;have uR:=(G3.o.cell (55+Z*3+a)).trans sM;have uN:=G3.o.thaw (55+Z*3+a);refine Ac 0 ?_;refine Ac 1 ?_;refine Ac 2 ?_;refine Ac 3 ?_;refine Ac 4 ?_;refine Ac 5 ?_;refine Ac 6 ?_;refine Bc 7 uP ?_;refine Ac 8 ?_;refine Ac 9 ?_;refine Ac 10 ?_;refine Aw 11 ?_;refine AX ?_ ?_
   . kernel_rfl
   intro K hK;go_simp;refine hK.o _ _ ?_;(try simp only[Rg.lp]);refine Bg Ap ?_ _;refine NoPanic.normal ?_;have vg:=zz sM;clear uP uR uN sM;have N:=zz (N.o.set (55+Z*3+a) (.int .i64 d) (by have:=sZ.o;omega));have G3:=zz (G3.o.set (55+Z*3+a) (.int .i64 d))
   generalize(V0.setCell ⟨w.heap.size,55+Z*3+a,none⟩ (.int .i64 d))=W6 at*
   have x0: W6.cell? ⟨w.heap.size,0,none⟩=some (.int .i64 (k:Int)):=by rw[G3.o.cell,Array.getElem?_setIfInBounds_ne Aa];exact b.o
   by_cases E:Z=k
   .have e1:((Z:Int)!=(k:Int))=false:=by simp[E]
    have HE:=zz (show d=zj by rw[l.o];unfold Fh;rw[Ao E])
    clear E l;go_wp2_with fail;exact⟨⟨a+1,by have:=L.o;omega,BG,by rw[←rH.o d HE.o];exact G3.o,N.o⟩,by have:=L.o;simp[intOf];omega⟩
   have e1:((Z:Int)!=(k:Int))=true:=Ec;have e2:¬((Z:Int)=(k:Int)):=Aa
   have HE:=zz (show zj=MajLaw.Ri (d::Ca k Z (Z*3+a) o 4) 0 by rw[l.o];unfold Fh;rw[Aj E])
   have tX:=LM (Z*3+a) o hk qY.o E
   have uQ:=zz (show MajLaw.Ri (d::Ca k Z (Z*3+a) o 4) 0=MajLaw.Ri [d,EC (Ca k Z (Z*3+a) o 4) 0,EC (Ca k Z (Z*3+a) o 4) 1] 0 from by
    match hq:Ca k Z (Z*3+a) o 4,tX with
    |[p,q],_=>rfl)
   have tC:=zz (fun(v:World) (hv:DK w w.heap.size X V Y o s gh R4 v)=>show Calls prog 40 #[.agg R4,.int .i64 (k:Int),.int .i64 (Z:Int),.int .i64 ((Z*3+a:Nat):Int)] v fun e w'=>e=.returned (.agg (BH .i64 2 (EC (Ca k Z (Z*3+a) o 4))))/\Below v.heap.size v w' from by
    rw[←vJ.o]
    exact VO s o k Z (Z*3+a) hk qY.o E v (fun i hi=>F8.of (hv.hs i hi)) fun i m hm=>by have:=rO.o i m hm;have:=vD.o;omega)
   rw[uQ.o]at HE
   generalize EC (Ca k Z (Z*3+a) o 4)=P at*
   obtain⟨q,hq⟩:∃q:Nat,Z*3+a=q:=⟨_,rfl⟩;have vQ:(Z:Int)*3+(a:Int)=(q:Int):=Aa;have HQ:=zz hq;rw[hq]at tC;have sD:(prog.info? 88).map (·.size)=some R4.size:=i4;have sJ:=tC.o W6 N.o
   have i2:(prog.info? 90).map (·.size)=some (BH .i64 2 P).size:=by rw[EL];kernel_rfl
   have z2:(bg:Array Value).size=(BH .i64 2 P).size:=by rw[EL];rfl
   have o2:(BH .i64 2 P).all (·.oneCell')=true:=Rb;obtain⟨RP,sQ⟩:=AJ (BH .i64 2 P);rw[sQ]at sJ i2 z2 o2;have uV:=zz sQ;have tH:=zz sJ;have tV:=zz N.o.hh;clear E l tX uQ tC hq sQ sJ
   go_wp2_with(refine Ad rfl 88 _ rfl gh rfl tV.o _ underlying88 rfl sD ?_)
   refine tH.o.mono ?_;rintro e H ⟨rfl,hb⟩;have N:=zz (N.o.step hb);have G3:=AU G3 hb;clear hb x0 tH tV;have r9:=zz (Ae.fresh H 90 bg)
   go_upto_region 14 with(refine wpList_store_row rfl 90 _ _ rfl H.heap.size RP rfl rfl 90 _ r9.o i2 z2 o2 ?_)
   have HT:=zz (r9.o.setRow RP);have sw:Below H.heap.size H ((H.alloc (.cells bg 90)).setRow H.heap.size RP):=below_setRow (DC) Nr RP;have N:=zz (N.o.step sw);have tZ:=G3.o.lt;have G3:=AU G3 sw;clear r9 sw
   generalize((H.alloc (.cells bg 90)).setRow H.heap.size RP)=w8 at*
   obtain⟨gt,uG⟩:=AJ (H.heap.size);rw[uG]at HT tZ ⊢;clear uG;rw[←uV.o]at HT;have G3:=zz G3.o.drew;have N:=zz N.o.drew;have HT:=zz HT.o.drew
   have tY:(RN.setIfInBounds (55+Z*3+a) (.int .i64 d))[39+Z*3+a]?=some (.int .i64 d):=by rw[Array.getElem?_setIfInBounds_ne Aa];exact t.o
   have M:=And.intro ((G3.o.cell (39+Z*3+a)).trans tY) HT.o;refine wp_region_noPanic ?_;refine A8 [7,9,11] (fun w'=> w'.cell? ⟨w.heap.size,39+Z*3+a,none⟩=some (.int .i64 d)/\Ae w' gt 90 (BH .i64 2 P)) Ap ?_
   generalize w8.drew=V0 at*
   refine Ac 0 ?_;refine Ac 1 ?_;refine Ac 2 ?_;refine Ac 3 ?_;refine Ac 4 ?_;refine Ac 5 ?_;refine Ac 6 ?_;refine Ba 7 ?_ M (hy:=?_) (h:=?_);rotate_left 1
   . (intro w' T;have y:=T.1;go_simp;(try with_reducible rfl))
   refine Ac 8 ?_;refine Ba 9 ?_ M (hy:=?_) (h:=?_);rotate_left 1
   . (intro w' T;have y:=(T.2.cell 0).trans (Cu _ _ _ _ Aa);go_simp;(try with_reducible rfl))
   refine Ac 10 ?_;refine Ba 11 ?_ M (hy:=?_) (h:=?_);rotate_left 1
   . (intro w' T;have y:=(T.2.cell 1).trans (Cu _ _ _ _ Aa);go_simp;(try with_reducible rfl))
   refine Ac 13 ?_;refine Ac 14 ?_;refine Aw 12 ?_;refine AX ?_ ?_
   . kernel_rfl
   intro K hK;rw[Ao Bb];go_simp
   go_at_call 41
   refine(Mj.Kn d (P 0) (P 1) V0).mono ?_;rintro e V1 ⟨rfl,hb⟩;have N:=zz (N.o.step hb);have G3:=AU G3 hb;clear hb M;have M:=trivial;rw[←HE.o];have uN:=G3.o.thaw (55+Z*3+a);have um:=(Array.getElem?_eq_some_iff.1 vg.o).1
   have uR: V1.cell? ⟨w.heap.size,55+Z*3+a,none⟩=some (.int .i64 d):=by rw[G3.o.cell,Array.getElem?_setIfInBounds_self_of_lt um]
   refine hK.o _ _ ?_;refine Ac 15 ?_;refine Aw 16 ?_;refine AX ?_ ?_
   . kernel_rfl
   intro K hK;go_simp;refine hK.o _ _ ?_;(try simp only[Rg.lp]);refine Bg Ap ?_ _;refine NoPanic.normal ?_;go_wp2_with fail;refine⟨⟨a+1,by have:=L.o;omega,BG,?_,N.o.set (55+Z*3+a) (.int .i64 zj) (by have:=sZ.o;omega)⟩,by have:=L.o;simp[intOf];omega⟩;have h:=G3.o.set (55+Z*3+a) (.int .i64 zj);rw[Array.setIfInBounds_setIfInBounds,rH.o zj rfl]at h;exact h
  obtain rfl:a=3:=Aa
  rw[show((3:Nat):Int)=3 from rfl]
  clear R;go_wp2_with fail
  exact⟨⟨Z+1,by have:=qY.o;omega,BG,by rw[show(Z+1)*3=Z*3+3 by omega];exact G3.o,N.o⟩,by have:=qY.o;simp[intOf];omega⟩
 obtain rfl:Z=4:=Aa
 rw[show((4:Nat):Int)=4 from rfl]
 have G3:=zz (show Ae wr w.heap.size 37 (row 74 (Ab (Bv f z Dp 0 0) (.slice X Y.length V)))from by rw[←jq f z 0 0];exact G3.o)
 clear sP;go_wp2_with fail;have O:=zz N.o.nk;clear N rD rO
 generalize wr=wq at*
 go_loopw[68] (fun iv wr=>∃a:Nat,a<=3/\iv=.int .i64 (a:Int)/\Ae wr w.heap.size 37 (row 74 (Ab (Bv f z Dp a a) (.slice X Y.length V)))/\NK w w.heap.size X V Y wr) (fun iv _=>3-(intOf iv).toNat)
 .exact⟨0,Aa,rfl,G3.o,O.o⟩
 obtain⟨a,ha,rfl,J,hd⟩:=hrel;clear G3 O;have G3:=zz J;have O:=zz hd;clear J hd
 by_cases R:a<3
 .have a0:(0:Int)<=(a:Int):=Aa;have a3:(a:Int)<3:=Aa;have L:=zz R;have vG:=zz (Um (f:=f) rZ.o a R)
  have rA:=zz (fun v=>show Calls prog 42 #[.agg (row 74 (Ab (Bv f z Dp a a) (.slice X Y.length V))),.int .i64 (a:Int)] v fun e w'=>e=.returned (.int .i64 (Il f z a))/\Below v.heap.size v w' from by
   have h:=eP (Bv f z Dp a a) (F9 HF.o z Dp a a Aa Aa) a R (fun Z hs=>by unfold mM;rw[UB f z Dp a a Aa (Z*3+a) Aa rfl];exact rZ.o _ Aa) (.slice X Y.length V) v;rw[ZN f z Dp a a Aa Aa a R (fun _ _=>rfl)]at h
   exact h)
  have rP:=zz (Tg f z Dp a a Aa R (.slice X Y.length V))
  have qW:=zz (show ∃v,(row 74 (Ab (Bv f z Dp a a) (.slice X Y.length V)))[67+a]?=some (.int .i64 v)from by
   refine⟨iv (Bv f z Dp a a (67+a)),?_⟩;rw[Ah Aa]
   unfold Ab
   rw[Aj Aa,←Dk (F9 HF.o z _ a a Aa Aa) (67+a) Aa (by unfold Ar;simp;omega)])
  have tK:=zz (show(row 7 fun j=>Ab (Bv f z Dp a (a+1)) (.slice X Y.length V) (6+a*7+j))=ME (Nh f a)from by
   rw[←YM HF.o a R]
   exact AA fun j hj=>by unfold Ab;rw[Aj Aa,Nat.add_assoc,Ze _ _ _ _ _ R _ hj])
  have uD:=zz (show(row 4 fun j=>Ab (Bv f z Dp a (a+1)) (.slice X Y.length V) (2+j))=Rq (iv (f 2)) (iv (f 3)) (iv (f 4)) (iv (f 5))from by
   have e:∀j,j<4->Ab (Bv f z Dp a (a+1)) (.slice X Y.length V) (2+j)=.int .i64 (iv (f (2+j))):=fun j hj=>by unfold Ab;rw[Aj Aa,DZ _ _ _ _ _ _ Aa Aa Aa];exact Dk HF.o (2+j) Aa (by unfold Ar;simp;omega)
   rw[AA (g:=fun j=>.int .i64 (iv (f (2+j)))) e]
   rfl)
  have rW:=zz (show(row 74 (Ab (Bv f z Dp a (a+1)) (.slice X Y.length V)))[67+a]?=some (.int .i64 (Il f z a))from by rw[Ah Aa];unfold Ab;rw[Aj Aa,YR _ _ _ _ _ Aa _ Aa Aa])
  have rJ:=zz (fun v=>show Calls prog 43 #[.agg (ME (Nh f a)),.agg (Rq (iv (f 2)) (iv (f 3)) (iv (f 4)) (iv (f 5))),.int .i64 (Il f z a)] v fun e w'=>e=.returned (.tuple #[.agg (ME (JJ f z a)),.bool (KG (Nh f a) (iv (f 2)) (iv (f 3)) (iv (f 4)) (iv (f 5)) (Il f z a)).2])/\Below v.heap.size v w' from
   av (Nh f a) _ _ _ _ _ v (vC.o a R) (rM.o 2 Aa) (rM.o 3 Aa) (rM.o 4 Aa) (rM.o 5 Aa) vG.o)
  have vM:=zz (Tt f z Dp a (a+1) R (.slice X Y.length V))
  have uy:∀u,(prog.info? 37).map (·.size)=some (row 74 (Ab (Bv f z Dp a u) (.slice X Y.length V))).size:=fun u=>by rw[Ag];kernel_rfl
  have qR:=uy a;clear uy;obtain⟨U,hU⟩:=AJ (Il f z a);rw[hU]at rA rP rW rJ;obtain⟨RA,qX⟩:=AJ (row 74 (Ab (Bv f z Dp a a) (.slice X Y.length V)));rw[qX]at G3 rA rP qW qR;obtain⟨TC,uw⟩:=AJ (Rq (iv (f 2)) (iv (f 3)) (iv (f 4)) (iv (f 5)));rw[uw]at uD rJ;obtain⟨SC,uH⟩:=AJ (ME (Nh f a));rw[uH]at tK rJ;clear hU qX R uw uH
  go_wp2_with(refine Ad rfl 37 _ rfl w.heap.size rfl G3.o _ underlying37 rfl qR ?_)
  refine(rA.o _).mono ?_;rintro e w6 ⟨rfl,hb⟩;have G3:=AU G3 hb;have O:=zz (O.o.step hb);clear hb rA;obtain⟨vS,uS⟩:=qW.o;have vK:=(G3.o.cell (67+a)).trans uS;have uZ:=G3.o.thaw (67+a)
  go_upto_region 21 with fail
  have O:=zz (O.o.set (67+a) (.int .i64 U));have G3:=zz (G3.o.set (67+a) (.int .i64 U));rw[rP.o]at G3;clear vK uZ uS qW rP
  generalize(w6.setCell ⟨w.heap.size,67+a,none⟩ (.int .i64 U))=H at*
  have G3:=zz G3.o.drew;have O:=zz O.o.drew;have M:=G3.o;refine wp_region_noPanic ?_;refine A8 [4,6,10] (fun w'=>Ae w' w.heap.size 37 (row 74 (Ab (Bv f z Dp a (a+1)) (.slice X Y.length V)))) Ap ?_
  generalize H.drew=V0 at*
  refine Ac 0 ?_;refine Ac 1 ?_;refine Ac 2 ?_;refine Ac 3 ?_;refine Ba 4 (.agg SC) M (hy:=?_) (h:=?_)
  . (intro w' T;rw[←tK.o];exact BK 25 (.tmp 81) rfl w.heap.size (6+a*7) 7 rfl _ _ (Dx T (6+a*7) 7 (by have:=L.o;omega)) underlying25 rfl Ap)
  refine Ac 5 ?_;refine Ba 6 (.agg TC) M (hy:=?_) (h:=?_)
  . (intro w' T;rw[←uD.o];exact BK 23 (.tmp 83) rfl w.heap.size 2 4 rfl _ _ (Dx T 2 4 Aa) underlying23 rfl Ap)
  refine Ac 7 ?_;refine Ac 8 ?_;refine Ac 9 ?_;refine Ba 10 (.int .i64 U) M (hy:=?_) (h:=?_)
  . (intro w' T;have y:=(T.cell (67+a)).trans rW.o;go_simp;(try with_reducible rfl))
  refine Ac 15 ?_;refine Aw 11 ?_;refine AX ?_ ?_
  . kernel_rfl
  intro K hK;rw[Ao Bb];go_simp
  go_at_call 43
  refine(rJ.o _).mono ?_;rintro e V1 ⟨rfl,hb⟩;have G3:=AU G3 hb;have O:=zz (O.o.step hb);clear hb M;have M:=trivial;go_wp2_with fail;refine hK.o _ _ ?_;refine Ac 12 ?_;refine Ac 13 ?_;refine Ac 14 ?_;refine Ac 16 ?_;refine Aw 17 ?_;refine AX ?_ ?_
  . kernel_rfl
  intro K hK;rw[Ao Bb];refine wp_store_mid 25 (.tmp 93) (.tmp 90) rfl w.heap.size (6+a*7) (ME (JJ f z a)) rfl rfl (by rw[Jk,Ag];exact Cg G3.o (6+a*7) 7 (by have:=L.o;omega)) (by rw[Jk,Ag];kernel_rfl) (by rw[Jk];exact row_one (Ra _)) ?_;have G3:=zz (DI G3.o (6+a*7) 7 (Ky (JJ f z a)));rw[vM.o,←Jk]at G3;have O:=zz (O.o.sets (ME (JJ f z a)).toList (6+a*7))
  generalize(V1.setCells w.heap.size (6+a*7) (ME (JJ f z a)).toList)=V2 at*
  refine hK.o _ _ ?_;(try simp only[Rg.lp]);refine Bg Ap ?_ _;refine NoPanic.normal ?_;go_wp2_with fail;exact⟨⟨a+1,by have:=L.o;omega,BG,G3.o,O.o⟩,by have:=L.o;simp[intOf];omega⟩
 obtain rfl:a=3:=Aa
 rw[show((3:Nat):Int)=3 from rfl]
 clear R
 have rE:=zz (fun v=>show Calls prog 44 #[.agg (row 74 (Ab (Bv f z Dp 3 3) (.slice X Y.length V)))] v fun e w'=>e=.returned (.int .i64 (EF (Bv f z Dp 3 3)))/\Below v.heap.size v w' from Yu (Bv f z Dp 3 3) (F9 HF.o z Dp 3 3 Aa Aa) (.slice X Y.length V) v)
 have C:=zz (VI k hk z f (.slice X Y.length V))
 have HN:=zz (show ∀i,i<73->∃v,(row 74 (Ab (Bv f z Dp 3 3) (.slice X Y.length V)))[i]?=some v from fun i hi=>⟨_,Ah Aa⟩)
 have b:=zz (show(row 74 (Ab (Bv f z Dp 3 3) (.slice X Y.length V)))[0]?=some (.int .i64 (k:Int))from by rw[Ah Aa];unfold Ab;rw[Aj Aa,DZ _ _ _ _ _ _ Aa Aa Aa,rG.o])
 have qV:=zz (show ∃v,(row 74 (Ab (Bv f z Dp 3 3) (.slice X Y.length V)))[51+k]?=some (.int .i64 v)from by
  refine⟨iv (Bv f z Dp 3 3 (51+k)),?_⟩;rw[Ah Aa]
  unfold Ab
  rw[Aj Aa,←Dk (F9 HF.o z _ 3 3 Aa Aa) (51+k) Aa (by unfold Ar;simp;omega)])
 have rq:=zz (show ∃v,(row 74 (Ab (Bv f z Dp 3 3) (.slice X Y.length V)))[70]?=some (.int .i64 v)from by
  refine⟨iv (Bv f z Dp 3 3 70),?_⟩;rw[Ah Aa]
  unfold Ab
  rw[Aj Aa,←Dk (F9 HF.o z _ 3 3 Aa Aa) 70 Aa (by unfold Ar;simp)])
 have qR:(prog.info? 37).map (·.size)=some (row 74 (Ab (Bv f z Dp 3 3) (.slice X Y.length V))).size:=Eg;have k4:(k:Int)<4:=Aa;obtain⟨dg,rY⟩:=AJ (EF (Bv f z Dp 3 3));have ul:=zz rY;rw[rY]at rE C;obtain⟨RA,qX⟩:=AJ (row 74 (Ab (Bv f z Dp 3 3) (.slice X Y.length V)));rw[qX]at G3 rE C HN b qV rq qR;clear qX rY
 go_wp2_with(refine Ad rfl 37 _ rfl w.heap.size rfl G3.o _ underlying37 rfl qR ?_)
 refine(rE.o _).mono ?_;rintro e w6 ⟨rfl,hb⟩;have G3:=AU G3 hb;have O:=zz (O.o.step hb);clear hb rE;obtain⟨vR,sO⟩:=rq.o;have sS:=(G3.o.cell 70).trans sO;have vH:=G3.o.thaw 70
 go_upto_region 24 with fail
 have O:=zz (O.o.set 70 (.int .i64 dg));have G3:=zz (G3.o.set 70 (.int .i64 dg));clear sS vH
 generalize(w6.setCell ⟨w.heap.size,70,none⟩ (.int .i64 dg))=H at*
 have sS: H.cell? ⟨w.heap.size,70,none⟩=some (.int .i64 dg):=by rw[G3.o.cell,Array.getElem?_setIfInBounds_self_of_lt (Array.getElem?_eq_some_iff.1 sO).1]
 have x0: H.cell? ⟨w.heap.size,0,none⟩=some (.int .i64 (k:Int)):=by rw[G3.o.cell,Array.getElem?_setIfInBounds_ne Aa];exact b.o
 obtain⟨vB,uT⟩:=qV.o
 have u7: H.cell? ⟨w.heap.size,51+k,none⟩=some (.int .i64 vB):=by rw[G3.o.cell,Array.getElem?_setIfInBounds_ne Aa];exact uT
 have vz:=G3.o.thaw (51+k)
 go_upto_region 25 with fail
 have O:=zz (O.o.set (51+k) (.int .i64 dg));have G3:=zz (G3.o.set (51+k) (.int .i64 dg));rw[C.o]at G3;clear sS x0 u7 vz uT sO HN b qV rq C qR
 generalize(H.setCell ⟨w.heap.size,51+k,none⟩ (.int .i64 dg))=w8 at*
 obtain⟨F,hF⟩:=AJ (Kv k z f);have vE:=zz hF
 have u6:=zz (show ∀i,i<73->C9 (Ar i) (F i)from by rw[←hF];exact Po HF.o k hk z)
 have uF:F 0=.int .i64 (k:Int):=by rw[←hF];unfold Kv;rw[Aj Aa,DZ _ _ _ _ _ _ Aa Aa Aa];exact rG.o
 have tL:F 1=.int .i64 fr:=by rw[←hF];unfold Kv;rw[Aj Aa,DZ _ _ _ _ _ _ Aa Aa Aa];exact uU.o
 have rR:F 70=.int .i64 dg:=by rw[←hF];unfold Kv;rw[Ao (.inl rfl),ul.o]
 rw[hF]at G3;clear hF;have o5:=Cv u6.o (A:=X) (n:=Y.length) (c:=V);have i5:(prog.info? 37).map (·.size)=some (row 74 (Ab F (.slice X Y.length V))).size:=Eg;have z5:(zeroCells37).size=(row 74 (Ab F (.slice X Y.length V))).size:=Eg
 have j0:(row 74 (Ab F (.slice X Y.length V)))[0]?=some (.int .i64 (k:Int)):=by rw[Ah Aa];exact congrArg some uF
 have j1:(row 74 (Ab F (.slice X Y.length V)))[1]?=some (.int .i64 fr):=by rw[Ah Aa];exact congrArg some tL
 have uI:=zz (show(row 74 (Ab F (.slice X Y.length V)))[70]?=some (.int .i64 dg)from by rw[Ah Aa];exact congrArg some rR)
 obtain⟨R5,sK⟩:=AJ (row 74 (Ab F (.slice X Y.length V)));rw[sK]at o5 i5 z5 j0 j1 G3 uI;have vk:=zz sK;clear sK uF tL rR;have G3:=zz G3.o.drew;have G6:=zz O.o.g6.drew;have I:=zz O.o.g7.drew;have HV:=zz O.o.drew.hv;have G:=zz O.o.hb.drew
 have vo:=zz (show w.heap.size+1+1<w8.drew.heap.size from I.o.lt)
 have M:=G3.o;clear O;refine wp_region_noPanic ?_;refine A8 [0,1,3] (fun w'=>Ae w' w.heap.size 37 R5) Ap ?_
 generalize w8.drew=V0 at*
 refine Ba 0 (.agg R5) M (hy:=?_) (h:=?_)
 . (intro w' T;exact Az 37 _ rfl _ rfl T underlying37 rfl i5)
 refine Ba 1 (.agg R5) M (hy:=?_) (h:=?_)
 . (intro w' T;exact Az 37 _ rfl _ rfl T underlying37 rfl i5)
 refine Ac 2 ?_;refine Ba 3 (.int .i64 dg) M (hy:=?_) (h:=?_)
 . (intro w' T;have y:=(T.cell 70).trans uI.o;go_simp;(try with_reducible rfl))
 refine Aw 4 ?_;refine Bt ?_;intro K hK;go_simp;have HP:=zz (Ae.fresh V0 3 (LB dg));have G3:=zz (G3.o.alloc (.cells (LB dg) 3));have G6:=zz (G6.o.alloc (.cells (LB dg) 3));have I:=zz (I.o.alloc (.cells (LB dg) 3));have HV:=zz (ownsRow_below HV.o ((Below.refl V0.heap.size V0).alloc Nr (.cells (LB dg) 3)))
 have qQ:=zz (show w.heap.size+1+1<V0.heap.size from vo.o)
 have G:=zz (G.o.alloc G.o.size (.cells (LB dg) 3));clear M
 generalize(V0.alloc (.cells (LB dg) 3))=V1 at*
 have M:=G3.o;obtain⟨gp,uo⟩:=AJ (V0.heap.size);rw[uo]at HP qQ ⊢;clear uo;refine hK.o _ _ M ?_;refine Aw 5 ?_;refine Bt ?_;intro K hK;rw[Ao Bb];go_simp
 go_at_call 38
 refine(Mf R5 (k:Int) fr 3 (some ⟨gp,0,none⟩) 1 1 j0 j1 V1).mono ?_;rintro e V2 ⟨rfl,hb⟩;have G3:=AU G3 hb;have G6:=AU G6 hb;have I:=AU I hb;have HP:=AU HP hb;have HV:=GJ HV hb;have G:=CU G hb;clear hb M;have M:=G3.o;go_wp2_with fail;refine hK.o _ _ M ?_;refine Aw 6 ?_;refine AX ?_ ?_
 . kernel_rfl
 intro K hK;rw[Ao Bb];refine wp_store_row 37 _ _ rfl (w.heap.size+1) R5 rfl rfl 37 _ G6.o i5 z5 o5 ?_;have G3:=zz (G3.o.setRow_other (g':=w.heap.size+1) (by have:=qQ.o;omega) R5);have I:=zz (I.o.setRow_other (g':=w.heap.size+1) (by have:=qQ.o;omega) R5);have HP:=zz (HP.o.setRow_other (g':=w.heap.size+1) (by have:=qQ.o;omega) R5);have G6:=zz (G6.o.setRow R5)
 have G:=zz (below_setRow G.o (show w.heap.size<=w.heap.size+1 by omega) R5)
 have HV:=zz (Ay HV.o (show w.heap.size+1<w.heap.size+1+1+1 by omega) R5)
 generalize(V2.setRow (w.heap.size+1) R5)=V3 at*
 refine hK.o _ _ ?_;refine Aw 7 ?_;refine AX ?_ ?_
 . kernel_rfl
 intro K hK;rw[Ao Bb];refine wp_store_row 65 _ _ rfl (w.heap.size+1+1) (Ms.AR 3 (k:Int) fr (some ⟨gp,0,none⟩) 1 1) rfl rfl 65 _ I.o Ap rfl (by simp[Ms.AR,Value.oneCell']) ?_;have G6:=zz (G6.o.setRow_other (g':=w.heap.size+1+1) Aa (Ms.AR 3 (k:Int) fr (some ⟨gp,0,none⟩) 1 1));have HP:=zz (HP.o.setRow_other (g':=w.heap.size+1+1) (by have:=qQ.o;omega) (Ms.AR 3 (k:Int) fr (some ⟨gp,0,none⟩) 1 1));have I:=zz (I.o.setRow (Ms.AR 3 (k:Int) fr (some ⟨gp,0,none⟩) 1 1))
 have G:=zz (below_setRow G.o (show w.heap.size<=w.heap.size+1+1 by omega) (Ms.AR 3 (k:Int) fr (some ⟨gp,0,none⟩) 1 1))
 have HV:=zz (Ay HV.o (show w.heap.size+1+1<w.heap.size+1+1+1 by omega) (Ms.AR 3 (k:Int) fr (some ⟨gp,0,none⟩) 1 1))
 generalize(V3.setRow (w.heap.size+1+1) (Ms.AR 3 (k:Int) fr (some ⟨gp,0,none⟩) 1 1))=V4 at*
 refine hK.o _ _ ?_;(try simp only[Rg.lp]);refine Bg Ap ?_ _;refine NoPanic.normal ?_;clear M;go_wp2_with fail;have sD:(prog.info? 65).map (·.size)=some (Ms.AR 3 (k:Int) fr (some ⟨gp,0,none⟩) 1 1).size:=Ap
 have vF:=zz ((Mj.DU HP.o).more (show gp+1<=V4.heap.size from HP.o.lt))
 exact Da rfl rfl rfl G6.o ⟨by rw[underlying37],i5⟩ I.o ⟨by rw[underlying65],sD⟩ rfl (by rw[uX.o,vE.o,ul.o];exact⟨X,V,some ⟨gp,0,none⟩,1,by rw[←vk.o];rfl,Rd.Bu HV.o,vF.o,G.o,fun a h=>Nat.le_trans Aa (Db HV.o a h),fun a h=>by cases h;show w.heap.size<=gp;have:=qQ.o;omega,(BU HV.o).1,(BU HV.o).2⟩)
end Nd
end Go.Proofs.YtjobajeggllmiaaGreat
